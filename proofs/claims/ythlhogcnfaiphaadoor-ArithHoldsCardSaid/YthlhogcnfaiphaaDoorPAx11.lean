-- Laid by this work's own program; Lean checks it.
import Derived.Test.YthlhogcnfaiphaaDoorPAx0
import Derived.Test.YthlhogcnfaiphaaDoorPAx2
import Derived.Test.YthlhogcnfaiphaaDoorPAx8
import Derived.Test.YthlhogcnfaiphaaDoorPAx9
import Derived.Test.YthlhogcnfaiphaaDoorPAx10
namespace Go.Proofs.YthlhogcnfaiphaaDoor.PA
open Go.RowKit Go.Proofs.YthlhogcnfaiphaaDoorW.PrintWords Go.Proofs.YthlhogcnfaiphaaDoorW.PrintLast Go.Proofs.YthlhogcnfaiphaaDoorW.PrintMore
attribute [local go_sem] max2_int min2_int max_two min_two max_three min_three max_four min_four   -- for this text's walks alone
set_option linter.unusedVariables false
set_option linter.unusedSimpArgs false

attribute [local go_sem ↓ high] isSome_set_
/-! ### dy_add: function 18 -/
theorem dy_add.tab7 : rtab .any (opsOf Tryd.f18 7) = dy_add.T7 := by kernel_rfl
theorem dy_add.bits7 : waitsOk dy_add.T7.2 dy_add.B7 = true := by kernel_rfl
def dy_add.T8 : Bool × List (List Nat × List Nat) := (true, [([], []), ([0], [0]), ([], []), ([1, 2], [1, 2]), ([], []), ([4], [4]), ([3, 5, 3], [3, 5]), ([6, 6, 0, 1, 2, 3, 4, 5, 6], [6])])
def dy_add.B8 : List Nat := [0, 1, 0, 7, 0, 16, 63, 127]
theorem dy_add.tab8 : rtab .any (opsOf Tryd.f18 8) = dy_add.T8 := by kernel_rfl
theorem dy_add.bits8 : waitsOk dy_add.T8.2 dy_add.B8 = true := by kernel_rfl
set_option maxHeartbeats 8000000 in
set_option maxRecDepth 100000 in
theorem dy_add.calls (k : Nat) (a0_0 : Bool) (P0_1_ : Nat → Prop) (A0_1 : Option Addr) (c0_1 : Nat) (l0_1 : List Int) (a0_2 : Int) (a1_0 : Bool) (P1_1_ : Nat → Prop) (A1_1 : Option Addr) (c1_1 : Nat) (l1_1 : List Int) (a1_2 : Int) (r1 : Bool) (r2 : List Int) (r3 : Int) (w : World) (hs0_1 : Kd.V (Kd.int .u32) 44 w w.heap.size (fun k_ => P0_1_ k_) (.slice A0_1 l0_1.length c0_1) l0_1) (hs1_1 : Kd.V (Kd.int .u32) 44 w w.heap.size (fun k_ => P1_1_ k_) (.slice A1_1 l1_1.length c1_1) l1_1) (h : dy_add.f k a0_0 l0_1 a0_2 a1_0 l1_1 a1_2 = some (r1, r2, r3)) (htab_ : Kd.C (Kd.int .u8) w (some ⟨0, 0, none⟩) 32 tz32tab) :
  Calls Tryd.prog 18 #[.agg #[.bool a0_0, .slice A0_1 l0_1.length c0_1, .int .i64 a0_2], .agg #[.bool a1_0, .slice A1_1 l1_1.length c1_1, .int .i64 a1_2]] w fun e w' => ∃ v1_ : Value, e = .returned (.agg #[.bool r1, v1_, .int .i64 r3]) ∧ Kd.V (Kd.int .u32) 44 w' w.heap.size (fun k_ => ((P0_1_ k_ ∨ P1_1_ k_) ∨ w.heap.size ≤ k_)) v1_ r2 ∧ Below w.heap.size w w' := by
 have HTAB := Aside0.mk htab_
 clear htab_
 have hu31 := Tryd.underlying31
 have hu29 := Tryd.underlying29
 have HO0_1 := Aside0.mk (show Kd.V (Kd.int .u32) 44 w w.heap.size (fun k_ => ((P0_1_ k_ ∨ P1_1_ k_) ∨ w.heap.size ≤ k_)) (.slice A0_1 l0_1.length c0_1) l0_1 from Kd.V_mono hs0_1 (fun k_ hk => .inl (.inl hk)))
 have HO1_1 := Aside0.mk (show Kd.V (Kd.int .u32) 44 w w.heap.size (fun k_ => ((P0_1_ k_ ∨ P1_1_ k_) ∨ w.heap.size ≤ k_)) (.slice A1_1 l1_1.length c1_1) l1_1 from Kd.V_mono hs1_1 (fun k_ hk => .inl (.inr hk)))
 have HB := Aside0.mk (Below.refl w.heap.size w)
 have H : (if (l0_1.length : Int) = 0 then (some (a1_0, l1_1, a1_2)) else (if (l1_1.length : Int) = 0 then (some (a0_0, l0_1, a0_2)) else (if a0_2 > a1_2 then ((nat_Shl.f k l0_1 (wrap64 (a0_2 - a1_2))).bind fun t495 => ((whole_Add.f k a1_0 l1_1 a0_0 t495).bind fun bt499 => ((dy_Make.f k bt499.1 bt499.2 a1_2).bind fun bt503 => (some (bt503.1, bt503.2.1, bt503.2.2))))) else ((nat_Shl.f k l1_1 (wrap64 (a1_2 - a0_2))).bind fun t508 => ((whole_Add.f k a0_0 l0_1 a1_0 t508).bind fun bt512 => ((dy_Make.f k bt512.1 bt512.2 a0_2).bind fun bt516 => (some (bt516.1, bt516.2.1, bt516.2.2)))))))) = some (r1, r2, r3) := h
 clear h
 by_cases c3 : (l0_1.length : Int) = 0
 ·rw [if_pos c3] at H
  have c3b0 : ((l0_1.length : Int) == 0) = true := beq_iff_eq.mpr c3
  have c3b1 : ((l0_1.length : Int) != 0) = false := bne_eq_false_iff_eq.mpr c3
  clear c3
  simp only [Option.some.injEq, Prod.mk.injEq] at H
  obtain ⟨rfl, rfl, rfl⟩ := H
  go_enter Tryd.func18, Tryd.ntmps18
  go_wp2_with (first | ((with_reducible refine gate_dst (N := 2) rfl ?_); refine bx_ 2 #[.bool a0_0, .slice A0_1 l0_1.length c0_1, .int .i64 a0_2] 31 ?_; intro gb492 hg w4 hbox hb; have n0_ := Aside0.mk (Kd.V_below (Kd.V_elderB (by (with_reducible repeat (first | apply Kd.V_alloc | apply Kd.V_drewN | apply Kd.V_drew)); exact HO0_1.out) gb492 (Nat.le_of_eq hg.symm)) hb); have n1_ := Aside0.mk (Kd.V_below (Kd.V_elderB (by (with_reducible repeat (first | apply Kd.V_alloc | apply Kd.V_drewN | apply Kd.V_drew)); exact HO1_1.out) gb492 (Nat.le_of_eq hg.symm)) hb); have n2_ := bq_ HB hb; have n3_ := Aside0.mk (hbox); have n4_ := ge_ hg HB; have n5_ := ge_ hg HB; clear HO0_1; clear HO1_1; clear HB; have HO0_1 := n0_; have HO1_1 := n1_; have HB := n2_; have BK492 := n3_; have GW492 := n4_; have GE492 := n5_; clear n0_ n1_ n2_ n3_ n4_ n5_; clear hb hbox hg) | ((with_reducible refine gate_dst (N := 3) rfl ?_); refine bx_ 3 #[.bool a1_0, .slice A1_1 l1_1.length c1_1, .int .i64 a1_2] 31 ?_; intro gb493 hg w5 hbox hb; have n0_ := Aside0.mk (Kd.V_below (Kd.V_elderB (by (with_reducible repeat (first | apply Kd.V_alloc | apply Kd.V_drewN | apply Kd.V_drew)); exact HO0_1.out) gb493 (Nat.le_of_eq hg.symm)) hb); have n1_ := Aside0.mk (Kd.V_below (Kd.V_elderB (by (with_reducible repeat (first | apply Kd.V_alloc | apply Kd.V_drewN | apply Kd.V_drew)); exact HO1_1.out) gb493 (Nat.le_of_eq hg.symm)) hb); have n2_ := kq_ BK492 hb; have n3_ := bq_ HB hb; have n4_ := Aside0.mk (hbox); have n5_ := ge_ hg HB; have n6_ := ge_ hg HB; have n7_ := nb_ hg BK492; have n8_ := nc_ hg BK492; clear HO0_1; clear HO1_1; clear BK492; clear HB; have HO0_1 := n0_; have HO1_1 := n1_; have BK492 := n2_; have HB := n3_; have BK493 := n4_; have GW493 := n5_; have GE493 := n6_; have NB492_493 := n7_; have NB493_492 := n8_; clear n0_ n1_ n2_ n3_ n4_ n5_ n6_ n7_ n8_; clear hb hbox hg) | ((with_reducible refine gate_dst (N := 4) rfl ?_); refine bx_ 4 #[.bool false, .slice none 0 0, .int .i64 0] 31 ?_; intro gb494 hg w6 hbox hb; have n0_ := Aside0.mk (Kd.V_below (Kd.V_elderB (by (with_reducible repeat (first | apply Kd.V_alloc | apply Kd.V_drewN | apply Kd.V_drew)); exact HO0_1.out) gb494 (Nat.le_of_eq hg.symm)) hb); have n1_ := Aside0.mk (Kd.V_below (Kd.V_elderB (by (with_reducible repeat (first | apply Kd.V_alloc | apply Kd.V_drewN | apply Kd.V_drew)); exact HO1_1.out) gb494 (Nat.le_of_eq hg.symm)) hb); have n2_ := kq_ BK492 hb; have n3_ := kq_ BK493 hb; have n4_ := bq_ HB hb; have n5_ := Aside0.mk (hbox); have n6_ := ge_ hg HB; have n7_ := ge_ hg HB; have n8_ := nb_ hg BK492; have n9_ := nc_ hg BK492; have n10_ := nb_ hg BK493; have n11_ := nc_ hg BK493; clear HO0_1; clear HO1_1; clear BK492; clear BK493; clear HB; have HO0_1 := n0_; have HO1_1 := n1_; have BK492 := n2_; have BK493 := n3_; have HB := n4_; have BK494 := n5_; have GW494 := n6_; have GE494 := n7_; have NB492_494 := n8_; have NB494_492 := n9_; have NB493_494 := n10_; have NB494_493 := n11_; clear n0_ n1_ n2_ n3_ n4_ n5_ n6_ n7_ n8_ n9_ n10_ n11_; clear hb hbox hg; have hnb7 := NB492_493.out; have hnc7 := NB493_492.out; have hnb8 := NB492_494.out; have hnc8 := NB494_492.out; obtain ⟨hcz9_0, hcz9_1, hcz9_2, hfz9_0, hfz9_1, hfz9_2⟩ := c3_ BK492; have hnb10 := NB493_494.out; have hnc10 := NB494_493.out; obtain ⟨hcz11_0, hcz11_1, hcz11_2, hfz11_0, hfz11_1, hfz11_2⟩ := c3_ BK493; obtain ⟨hcz12_0, hcz12_1, hcz12_2, hfz12_0, hfz12_1, hfz12_2⟩ := c3_ BK494))
  refine bodyPost_ret (results_cell_row rfl _ _ gb494 31 #[.bool a1_0, .slice A1_1 l1_1.length c1_1, .int .i64 a1_2] (0, 0) _ rfl (by refine kb_ ?_; refine bp_ #[.bool a1_0, .slice A1_1 l1_1.length c1_1, .int .i64 0] 2 ?_; refine bp_ #[.bool a1_0, .slice none 0 0, .int .i64 0] 1 ?_; refine bp_ #[.bool false, .slice none 0 0, .int .i64 0] 0 ?_; exact BK494.out) Tryd.underlying31 rfl (by kernel_rfl)) rfl ?_
  exact ⟨_, rf_, by (with_reducible repeat (first | apply Kd.V_alloc | apply Kd.V_drewN | apply Kd.V_drew)); exact Kd.V_mono (Kd.V_far (p := ⟨gb494, 2, none⟩) (Kd.V_far (p := ⟨gb494, 1, none⟩) (Kd.V_far (p := ⟨gb494, 0, none⟩) (Kd.V_mono HO1_1.out (fun k_ hk => (⟨hk, hk.2⟩ : _ ∧ k_ ≠ gb494))) (fun _ hk => hk.2) (.bool a1_0)) (fun _ hk => hk.2) (.slice A1_1 l1_1.length c1_1)) (fun _ hk => hk.2) (.int .i64 a1_2)) (fun _ hk => hk.1.1.1.1), bw_ HB.out⟩
 ·rw [if_neg c3] at H
  have c3b0 : ((l0_1.length : Int) == 0) = false := beq_eq_false_iff_ne.mpr c3
  have c3b1 : ((l0_1.length : Int) != 0) = true := bne_iff_ne.mpr c3
  have c3b2 : ¬ (l0_1 = []) := fun h_ => c3 (by rw [h_]; rfl)
  by_cases c13 : (l1_1.length : Int) = 0
  ·rw [if_pos c13] at H
   have c13b0 : ((l1_1.length : Int) == 0) = true := beq_iff_eq.mpr c13
   have c13b1 : ((l1_1.length : Int) != 0) = false := bne_eq_false_iff_eq.mpr c13
   clear c13
   simp only [Option.some.injEq, Prod.mk.injEq] at H
   obtain ⟨rfl, rfl, rfl⟩ := H
   go_enter Tryd.func18, Tryd.ntmps18
   go_wp2_with (first | ((with_reducible refine gate_dst (N := 2) rfl ?_); refine bx_ 2 #[.bool a0_0, .slice A0_1 l0_1.length c0_1, .int .i64 a0_2] 31 ?_; intro gb492 hg w14 hbox hb; have n0_ := Aside0.mk (Kd.V_below (Kd.V_elderB (by (with_reducible repeat (first | apply Kd.V_alloc | apply Kd.V_drewN | apply Kd.V_drew)); exact HO0_1.out) gb492 (Nat.le_of_eq hg.symm)) hb); have n1_ := Aside0.mk (Kd.V_below (Kd.V_elderB (by (with_reducible repeat (first | apply Kd.V_alloc | apply Kd.V_drewN | apply Kd.V_drew)); exact HO1_1.out) gb492 (Nat.le_of_eq hg.symm)) hb); have n2_ := bq_ HB hb; have n3_ := Aside0.mk (hbox); have n4_ := ge_ hg HB; have n5_ := ge_ hg HB; clear HO0_1; clear HO1_1; clear HB; have HO0_1 := n0_; have HO1_1 := n1_; have HB := n2_; have BK492 := n3_; have GW492 := n4_; have GE492 := n5_; clear n0_ n1_ n2_ n3_ n4_ n5_; clear hb hbox hg) | ((with_reducible refine gate_dst (N := 3) rfl ?_); refine bx_ 3 #[.bool a1_0, .slice A1_1 l1_1.length c1_1, .int .i64 a1_2] 31 ?_; intro gb493 hg w15 hbox hb; have n0_ := Aside0.mk (Kd.V_below (Kd.V_elderB (by (with_reducible repeat (first | apply Kd.V_alloc | apply Kd.V_drewN | apply Kd.V_drew)); exact HO0_1.out) gb493 (Nat.le_of_eq hg.symm)) hb); have n1_ := Aside0.mk (Kd.V_below (Kd.V_elderB (by (with_reducible repeat (first | apply Kd.V_alloc | apply Kd.V_drewN | apply Kd.V_drew)); exact HO1_1.out) gb493 (Nat.le_of_eq hg.symm)) hb); have n2_ := kq_ BK492 hb; have n3_ := bq_ HB hb; have n4_ := Aside0.mk (hbox); have n5_ := ge_ hg HB; have n6_ := ge_ hg HB; have n7_ := nb_ hg BK492; have n8_ := nc_ hg BK492; clear HO0_1; clear HO1_1; clear BK492; clear HB; have HO0_1 := n0_; have HO1_1 := n1_; have BK492 := n2_; have HB := n3_; have BK493 := n4_; have GW493 := n5_; have GE493 := n6_; have NB492_493 := n7_; have NB493_492 := n8_; clear n0_ n1_ n2_ n3_ n4_ n5_ n6_ n7_ n8_; clear hb hbox hg) | ((with_reducible refine gate_dst (N := 4) rfl ?_); refine bx_ 4 #[.bool false, .slice none 0 0, .int .i64 0] 31 ?_; intro gb494 hg w16 hbox hb; have n0_ := Aside0.mk (Kd.V_below (Kd.V_elderB (by (with_reducible repeat (first | apply Kd.V_alloc | apply Kd.V_drewN | apply Kd.V_drew)); exact HO0_1.out) gb494 (Nat.le_of_eq hg.symm)) hb); have n1_ := Aside0.mk (Kd.V_below (Kd.V_elderB (by (with_reducible repeat (first | apply Kd.V_alloc | apply Kd.V_drewN | apply Kd.V_drew)); exact HO1_1.out) gb494 (Nat.le_of_eq hg.symm)) hb); have n2_ := kq_ BK492 hb; have n3_ := kq_ BK493 hb; have n4_ := bq_ HB hb; have n5_ := Aside0.mk (hbox); have n6_ := ge_ hg HB; have n7_ := ge_ hg HB; have n8_ := nb_ hg BK492; have n9_ := nc_ hg BK492; have n10_ := nb_ hg BK493; have n11_ := nc_ hg BK493; clear HO0_1; clear HO1_1; clear BK492; clear BK493; clear HB; have HO0_1 := n0_; have HO1_1 := n1_; have BK492 := n2_; have BK493 := n3_; have HB := n4_; have BK494 := n5_; have GW494 := n6_; have GE494 := n7_; have NB492_494 := n8_; have NB494_492 := n9_; have NB493_494 := n10_; have NB494_493 := n11_; clear n0_ n1_ n2_ n3_ n4_ n5_ n6_ n7_ n8_ n9_ n10_ n11_; clear hb hbox hg; have hnb17 := NB492_493.out; have hnc17 := NB493_492.out; have hnb18 := NB492_494.out; have hnc18 := NB494_492.out; obtain ⟨hcz19_0, hcz19_1, hcz19_2, hfz19_0, hfz19_1, hfz19_2⟩ := c3_ BK492; have hnb20 := NB493_494.out; have hnc20 := NB494_493.out; obtain ⟨hcz21_0, hcz21_1, hcz21_2, hfz21_0, hfz21_1, hfz21_2⟩ := c3_ BK493; obtain ⟨hcz22_0, hcz22_1, hcz22_2, hfz22_0, hfz22_1, hfz22_2⟩ := c3_ BK494))
   refine bodyPost_ret (results_cell_row rfl _ _ gb494 31 #[.bool a0_0, .slice A0_1 l0_1.length c0_1, .int .i64 a0_2] (0, 0) _ rfl (by refine kb_ ?_; refine bp_ #[.bool a0_0, .slice A0_1 l0_1.length c0_1, .int .i64 0] 2 ?_; refine bp_ #[.bool a0_0, .slice none 0 0, .int .i64 0] 1 ?_; refine bp_ #[.bool false, .slice none 0 0, .int .i64 0] 0 ?_; exact BK494.out) Tryd.underlying31 rfl (by kernel_rfl)) rfl ?_
   exact ⟨_, rf_, by (with_reducible repeat (first | apply Kd.V_alloc | apply Kd.V_drewN | apply Kd.V_drew)); exact Kd.V_mono (Kd.V_far (p := ⟨gb494, 2, none⟩) (Kd.V_far (p := ⟨gb494, 1, none⟩) (Kd.V_far (p := ⟨gb494, 0, none⟩) (Kd.V_mono HO0_1.out (fun k_ hk => (⟨hk, hk.2⟩ : _ ∧ k_ ≠ gb494))) (fun _ hk => hk.2) (.bool a0_0)) (fun _ hk => hk.2) (.slice A0_1 l0_1.length c0_1)) (fun _ hk => hk.2) (.int .i64 a0_2)) (fun _ hk => hk.1.1.1.1), bw_ HB.out⟩
  ·rw [if_neg c13] at H
   have c13b0 : ((l1_1.length : Int) == 0) = false := beq_eq_false_iff_ne.mpr c13
   have c13b1 : ((l1_1.length : Int) != 0) = true := bne_iff_ne.mpr c13
   have c13b2 : ¬ (l1_1 = []) := fun h_ => c13 (by rw [h_]; rfl)
   by_cases c23 : a0_2 > a1_2
   ·rw [if_pos c23] at H
    have c23b0 : decide (a1_2 < a0_2) = true := decide_eq_true c23
    clear c23
    replace H := Option.bind_eq_some_iff.mp H
    obtain ⟨t495, A240, H⟩ := H
    (try dsimp only at H)
    have A24 := Aside0.mk A240
    clear A240
    replace H := Option.bind_eq_some_iff.mp H
    obtain ⟨⟨t499, t500⟩, A250, H⟩ := H
    (try dsimp only at H)
    have A25 := Aside0.mk A250
    clear A250
    replace H := Option.bind_eq_some_iff.mp H
    obtain ⟨⟨t503, t504, t507⟩, A260, H⟩ := H
    (try dsimp only at H)
    have A26 := Aside0.mk A260
    clear A260
    simp only [Option.some.injEq, Prod.mk.injEq] at H
    obtain ⟨rfl, rfl, rfl⟩ := H
    go_enter Tryd.func18, Tryd.ntmps18
    try go_wp2_with (first | ((with_reducible refine gate_dst (N := 2) rfl ?_); refine bx_ 2 #[.bool a0_0, .slice A0_1 l0_1.length c0_1, .int .i64 a0_2] 31 ?_; intro gb492 hg w27 hbox hb; have n0_ := Aside0.mk (Kd.V_below (Kd.V_elderB (by (with_reducible repeat (first | apply Kd.V_alloc | apply Kd.V_drewN | apply Kd.V_drew)); exact HO0_1.out) gb492 (Nat.le_of_eq hg.symm)) hb); have n1_ := Aside0.mk (Kd.V_below (Kd.V_elderB (by (with_reducible repeat (first | apply Kd.V_alloc | apply Kd.V_drewN | apply Kd.V_drew)); exact HO1_1.out) gb492 (Nat.le_of_eq hg.symm)) hb); have n2_ := bq_ HB hb; have n3_ := Aside0.mk (hbox); have n4_ := ge_ hg HB; have n5_ := ge_ hg HB; clear HO0_1; clear HO1_1; clear HB; have HO0_1 := n0_; have HO1_1 := n1_; have HB := n2_; have BK492 := n3_; have GW492 := n4_; have GE492 := n5_; clear n0_ n1_ n2_ n3_ n4_ n5_; clear hb hbox hg) | ((with_reducible refine gate_dst (N := 3) rfl ?_); refine bx_ 3 #[.bool a1_0, .slice A1_1 l1_1.length c1_1, .int .i64 a1_2] 31 ?_; intro gb493 hg w28 hbox hb; have n0_ := Aside0.mk (Kd.V_below (Kd.V_elderB (by (with_reducible repeat (first | apply Kd.V_alloc | apply Kd.V_drewN | apply Kd.V_drew)); exact HO0_1.out) gb493 (Nat.le_of_eq hg.symm)) hb); have n1_ := Aside0.mk (Kd.V_below (Kd.V_elderB (by (with_reducible repeat (first | apply Kd.V_alloc | apply Kd.V_drewN | apply Kd.V_drew)); exact HO1_1.out) gb493 (Nat.le_of_eq hg.symm)) hb); have n2_ := kq_ BK492 hb; have n3_ := bq_ HB hb; have n4_ := Aside0.mk (hbox); have n5_ := ge_ hg HB; have n6_ := ge_ hg HB; have n7_ := nb_ hg BK492; have n8_ := nc_ hg BK492; clear HO0_1; clear HO1_1; clear BK492; clear HB; have HO0_1 := n0_; have HO1_1 := n1_; have BK492 := n2_; have HB := n3_; have BK493 := n4_; have GW493 := n5_; have GE493 := n6_; have NB492_493 := n7_; have NB493_492 := n8_; clear n0_ n1_ n2_ n3_ n4_ n5_ n6_ n7_ n8_; clear hb hbox hg) | ((with_reducible refine gate_dst (N := 4) rfl ?_); refine bx_ 4 #[.bool false, .slice none 0 0, .int .i64 0] 31 ?_; intro gb494 hg w29 hbox hb; have n0_ := Aside0.mk (Kd.V_below (Kd.V_elderB (by (with_reducible repeat (first | apply Kd.V_alloc | apply Kd.V_drewN | apply Kd.V_drew)); exact HO0_1.out) gb494 (Nat.le_of_eq hg.symm)) hb); have n1_ := Aside0.mk (Kd.V_below (Kd.V_elderB (by (with_reducible repeat (first | apply Kd.V_alloc | apply Kd.V_drewN | apply Kd.V_drew)); exact HO1_1.out) gb494 (Nat.le_of_eq hg.symm)) hb); have n2_ := kq_ BK492 hb; have n3_ := kq_ BK493 hb; have n4_ := bq_ HB hb; have n5_ := Aside0.mk (hbox); have n6_ := ge_ hg HB; have n7_ := ge_ hg HB; have n8_ := nb_ hg BK492; have n9_ := nc_ hg BK492; have n10_ := nb_ hg BK493; have n11_ := nc_ hg BK493; clear HO0_1; clear HO1_1; clear BK492; clear BK493; clear HB; have HO0_1 := n0_; have HO1_1 := n1_; have BK492 := n2_; have BK493 := n3_; have HB := n4_; have BK494 := n5_; have GW494 := n6_; have GE494 := n7_; have NB492_494 := n8_; have NB494_492 := n9_; have NB493_494 := n10_; have NB494_493 := n11_; clear n0_ n1_ n2_ n3_ n4_ n5_ n6_ n7_ n8_ n9_ n10_ n11_; clear hb hbox hg; have hnb30 := NB492_493.out; have hnc30 := NB493_492.out; have hnb31 := NB492_494.out; have hnc31 := NB494_492.out; obtain ⟨hcz32_0, hcz32_1, hcz32_2, hfz32_0, hfz32_1, hfz32_2⟩ := c3_ BK492; have hnb33 := NB493_494.out; have hnc33 := NB494_493.out; obtain ⟨hcz34_0, hcz34_1, hcz34_2, hfz34_0, hfz34_1, hfz34_2⟩ := c3_ BK493))
    have n0_ : Aside0 (Kd.V (Kd.int .u32) 44 ((((((w29.setCell ⟨gb492, 0, none⟩ (.bool a1_0)).setCell ⟨gb492, 1, none⟩ (.slice A1_1 l1_1.length c1_1)).setCell ⟨gb492, 2, none⟩ (.int .i64 a1_2)).setCell ⟨gb493, 0, none⟩ (.bool a0_0)).setCell ⟨gb493, 1, none⟩ (.slice A0_1 l0_1.length c0_1)).setCell ⟨gb493, 2, none⟩ (.int .i64 a0_2)) w.heap.size (fun k_ => ((P0_1_ k_ ∨ P1_1_ k_) ∨ w.heap.size ≤ k_) ∧ k_ ≠ gb492 ∧ k_ ≠ gb493 ∧ k_ ≠ gb494) (.slice A0_1 l0_1.length c0_1) l0_1) := ⟨by (with_reducible repeat (first | apply Kd.V_alloc | apply Kd.V_drewN | apply Kd.V_drew)); exact Kd.V_mono (Kd.V_far (p := ⟨gb493, 2, none⟩) (Kd.V_far (p := ⟨gb493, 1, none⟩) (Kd.V_far (p := ⟨gb493, 0, none⟩) (Kd.V_far (p := ⟨gb492, 2, none⟩) (Kd.V_far (p := ⟨gb492, 1, none⟩) (Kd.V_far (p := ⟨gb492, 0, none⟩) (Kd.V_mono (Kd.V_mono HO0_1.out (fun k_ hk => (⟨hk, hk.1.1.2⟩ : _ ∧ k_ ≠ gb492))) (fun k_ hk => (⟨hk, hk.1.1.2⟩ : _ ∧ k_ ≠ gb493))) (fun _ hk => hk.1.2) (.bool a1_0)) (fun _ hk => hk.1.2) (.slice A1_1 l1_1.length c1_1)) (fun _ hk => hk.1.2) (.int .i64 a1_2)) (fun _ hk => hk.2) (.bool a0_0)) (fun _ hk => hk.2) (.slice A0_1 l0_1.length c0_1)) (fun _ hk => hk.2) (.int .i64 a0_2)) (fun _ hk => by first | exact ⟨hk.1.1.1.1.1, ⟨hk.1.1.1.1.2, ⟨hk.1.1.1.2, hk.1.1.2⟩⟩⟩ | simp [hk])⟩
    have n1_ : Aside0 (Kd.V (Kd.int .u32) 44 ((((((w29.setCell ⟨gb492, 0, none⟩ (.bool a1_0)).setCell ⟨gb492, 1, none⟩ (.slice A1_1 l1_1.length c1_1)).setCell ⟨gb492, 2, none⟩ (.int .i64 a1_2)).setCell ⟨gb493, 0, none⟩ (.bool a0_0)).setCell ⟨gb493, 1, none⟩ (.slice A0_1 l0_1.length c0_1)).setCell ⟨gb493, 2, none⟩ (.int .i64 a0_2)) w.heap.size (fun k_ => ((P0_1_ k_ ∨ P1_1_ k_) ∨ w.heap.size ≤ k_) ∧ k_ ≠ gb492 ∧ k_ ≠ gb493 ∧ k_ ≠ gb494) (.slice A1_1 l1_1.length c1_1) l1_1) := ⟨by (with_reducible repeat (first | apply Kd.V_alloc | apply Kd.V_drewN | apply Kd.V_drew)); exact Kd.V_mono (Kd.V_far (p := ⟨gb493, 2, none⟩) (Kd.V_far (p := ⟨gb493, 1, none⟩) (Kd.V_far (p := ⟨gb493, 0, none⟩) (Kd.V_far (p := ⟨gb492, 2, none⟩) (Kd.V_far (p := ⟨gb492, 1, none⟩) (Kd.V_far (p := ⟨gb492, 0, none⟩) (Kd.V_mono (Kd.V_mono HO1_1.out (fun k_ hk => (⟨hk, hk.1.1.2⟩ : _ ∧ k_ ≠ gb492))) (fun k_ hk => (⟨hk, hk.1.1.2⟩ : _ ∧ k_ ≠ gb493))) (fun _ hk => hk.1.2) (.bool a1_0)) (fun _ hk => hk.1.2) (.slice A1_1 l1_1.length c1_1)) (fun _ hk => hk.1.2) (.int .i64 a1_2)) (fun _ hk => hk.2) (.bool a0_0)) (fun _ hk => hk.2) (.slice A0_1 l0_1.length c0_1)) (fun _ hk => hk.2) (.int .i64 a0_2)) (fun _ hk => by first | exact ⟨hk.1.1.1.1.1, ⟨hk.1.1.1.1.2, ⟨hk.1.1.1.2, hk.1.1.2⟩⟩⟩ | simp [hk])⟩
    have n2_ : Aside0 (((((((w29.setCell ⟨gb492, 0, none⟩ (.bool a1_0)).setCell ⟨gb492, 1, none⟩ (.slice A1_1 l1_1.length c1_1)).setCell ⟨gb492, 2, none⟩ (.int .i64 a1_2)).setCell ⟨gb493, 0, none⟩ (.bool a0_0)).setCell ⟨gb493, 1, none⟩ (.slice A0_1 l0_1.length c0_1)).setCell ⟨gb493, 2, none⟩ (.int .i64 a0_2)).heap[gb492]? = some (.cells #[.bool a1_0, .slice A1_1 l1_1.length c1_1, .int .i64 a1_2] 31 (0, 0))) := ⟨by refine kb_ ?_; refine bf_ NB492_493 ?_; refine bf_ NB492_493 ?_; refine bf_ NB492_493 ?_; refine bp_ #[.bool a1_0, .slice A1_1 l1_1.length c1_1, .int .i64 a0_2] 2 ?_; refine bp_ #[.bool a1_0, .slice A0_1 l0_1.length c0_1, .int .i64 a0_2] 1 ?_; refine bp_ #[.bool a0_0, .slice A0_1 l0_1.length c0_1, .int .i64 a0_2] 0 ?_; exact BK492.out⟩
    have n3_ : Aside0 (((((((w29.setCell ⟨gb492, 0, none⟩ (.bool a1_0)).setCell ⟨gb492, 1, none⟩ (.slice A1_1 l1_1.length c1_1)).setCell ⟨gb492, 2, none⟩ (.int .i64 a1_2)).setCell ⟨gb493, 0, none⟩ (.bool a0_0)).setCell ⟨gb493, 1, none⟩ (.slice A0_1 l0_1.length c0_1)).setCell ⟨gb493, 2, none⟩ (.int .i64 a0_2)).heap[gb493]? = some (.cells #[.bool a0_0, .slice A0_1 l0_1.length c0_1, .int .i64 a0_2] 31 (0, 0))) := ⟨by refine kb_ ?_; refine bp_ #[.bool a0_0, .slice A0_1 l0_1.length c0_1, .int .i64 a1_2] 2 ?_; refine bp_ #[.bool a0_0, .slice A1_1 l1_1.length c1_1, .int .i64 a1_2] 1 ?_; refine bp_ #[.bool a1_0, .slice A1_1 l1_1.length c1_1, .int .i64 a1_2] 0 ?_; refine bf_ NB493_492 ?_; refine bf_ NB493_492 ?_; refine bf_ NB493_492 ?_; exact BK493.out⟩
    have n4_ : Aside0 (((((((w29.setCell ⟨gb492, 0, none⟩ (.bool a1_0)).setCell ⟨gb492, 1, none⟩ (.slice A1_1 l1_1.length c1_1)).setCell ⟨gb492, 2, none⟩ (.int .i64 a1_2)).setCell ⟨gb493, 0, none⟩ (.bool a0_0)).setCell ⟨gb493, 1, none⟩ (.slice A0_1 l0_1.length c0_1)).setCell ⟨gb493, 2, none⟩ (.int .i64 a0_2)).heap[gb494]? = some (.cells #[.bool false, .slice none 0 0, .int .i64 0] 31 (0, 0))) := ⟨by refine kb_ ?_; refine bf_ NB494_493 ?_; refine bf_ NB494_493 ?_; refine bf_ NB494_493 ?_; refine bf_ NB494_492 ?_; refine bf_ NB494_492 ?_; refine bf_ NB494_492 ?_; exact BK494.out⟩
    have n5_ : Aside0 (Below w.heap.size w ((((((w29.setCell ⟨gb492, 0, none⟩ (.bool a1_0)).setCell ⟨gb492, 1, none⟩ (.slice A1_1 l1_1.length c1_1)).setCell ⟨gb492, 2, none⟩ (.int .i64 a1_2)).setCell ⟨gb493, 0, none⟩ (.bool a0_0)).setCell ⟨gb493, 1, none⟩ (.slice A0_1 l0_1.length c0_1)).setCell ⟨gb493, 2, none⟩ (.int .i64 a0_2))) := ⟨bw_ HB.out⟩
    (try clear HO0_1)
    (try clear HO1_1)
    (try clear BK492)
    (try clear BK493)
    (try clear BK494)
    (try clear HB)
    generalize ((((((w29.setCell ⟨gb492, 0, none⟩ (.bool a1_0)).setCell ⟨gb492, 1, none⟩ (.slice A1_1 l1_1.length c1_1)).setCell ⟨gb492, 2, none⟩ (.int .i64 a1_2)).setCell ⟨gb493, 0, none⟩ (.bool a0_0)).setCell ⟨gb493, 1, none⟩ (.slice A0_1 l0_1.length c0_1)).setCell ⟨gb493, 2, none⟩ (.int .i64 a0_2)) = w35 at n0_ n1_ n2_ n3_ n4_ n5_ ⊢
    have HO0_1 := n0_
    have HO1_1 := n1_
    have BK492 := n2_
    have BK493 := n3_
    have BK494 := n4_
    have HB := n5_
    clear n0_ n1_ n2_ n3_ n4_ n5_
    replace HO0_1 := Aside0.mk (Kd.V_drew HO0_1.out)
    replace HO1_1 := Aside0.mk (Kd.V_drew HO1_1.out)
    replace BK492 := Aside0.mk (blk_drew BK492.out)
    replace BK493 := Aside0.mk (blk_drew BK493.out)
    replace BK494 := Aside0.mk (blk_drew BK494.out)
    replace HB := Aside0.mk (below_drew1 HB.out)
    refine start_ (n := 15) (S := fun w' => w'.cell? ⟨gb493, 0, none⟩ = some (.bool a0_0) ∧ w'.cell? ⟨gb493, 1, none⟩ = some (.slice A0_1 l0_1.length c0_1) ∧ w'.cell? ⟨gb493, 2, none⟩ = some (.int .i64 a0_2) ∧ w'.cell? ⟨gb492, 0, none⟩ = some (.bool a1_0) ∧ w'.cell? ⟨gb492, 1, none⟩ = some (.slice A1_1 l1_1.length c1_1) ∧ w'.cell? ⟨gb492, 2, none⟩ = some (.int .i64 a1_2)) (ds := []) #[false, false, false, false, false, false, false, false, false, false, false, false, false, false, false] (by kernel_rfl) rfl rfl ⟨(blk_cell BK493.out 0).trans rfl, (blk_cell BK493.out 1).trans rfl, (blk_cell BK493.out 2).trans rfl, (blk_cell BK492.out 0).trans rfl, (blk_cell BK492.out 1).trans rfl, (blk_cell BK492.out 2).trans rfl⟩ (fun hHeld => ?_); refine with_tabW dy_add.tab7 dy_add.bits7 (fun HT_ HW_ => ?_)
    generalize w35.drew = w36 at HO0_1 HO1_1 BK492 BK493 BK494 HB hHeld ⊢
    refine pure_ (i := 0) (N := some 28) (v := ?_) (a' := ?_) #[true, false, false, false, false, false, false, false, false, false, false, false, false, false, false] rfl rfl (any_of HT_.out (by kernel_rfl)) (fun _ _ _ h => h) (Or.inl ⟨by rfl, ?_⟩) ?_ ?_
    rotate_left
    ·intro w'
     go_simp
     with_reducible rfl
    rotate_left
    ·exact pt_
    refine pure_ (i := 1) (N := some 29) (v := ?_) (a' := ?_) #[true, true, false, false, false, false, false, false, false, false, false, false, false, false, false] rfl rfl (any_of HT_.out (by kernel_rfl)) (fun _ _ _ h => h) (Or.inl ⟨by rfl, ?_⟩) ?_ ?_
    rotate_left
    ·intro w'
     go_simp
     with_reducible rfl
    rotate_left
    ·exact pt_
    refine pure_ (i := 3) (N := some 31) (v := ?_) (a' := ?_) #[true, true, false, true, false, false, false, false, false, false, false, false, false, false, false] rfl rfl (any_of HT_.out (by kernel_rfl)) (fun _ _ _ h => h) (Or.inl ⟨by rfl, ?_⟩) ?_ ?_
    rotate_left
    ·intro w'
     go_simp
     with_reducible rfl
    rotate_left
    ·exact pt_
    refine pure_ (i := 4) (N := some 32) (v := ?_) (a' := ?_) #[true, true, false, true, true, false, false, false, false, false, false, false, false, false, false] rfl rfl (any_of HT_.out (by kernel_rfl)) (fun _ _ _ h => h) (Or.inl ⟨by rfl, ?_⟩) ?_ ?_
    rotate_left
    ·intro w'
     go_simp
     with_reducible rfl
    rotate_left
    ·exact pt_
    refine pure_ (i := 6) (N := some 34) (v := ?_) (a' := ?_) #[true, true, false, true, true, false, true, false, false, false, false, false, false, false, false] rfl rfl (any_of HT_.out (by kernel_rfl)) (fun _ _ _ h => h) (Or.inl ⟨by rfl, ?_⟩) ?_ ?_
    rotate_left
    ·intro w'
     go_simp
     with_reducible rfl
    rotate_left
    ·exact pt_
    refine pure_ (i := 8) (N := some 36) (v := ?_) (a' := ?_) #[true, true, false, true, true, false, true, false, true, false, false, false, false, false, false] rfl rfl (any_of HT_.out (by kernel_rfl)) (fun _ _ _ h => h) (Or.inl ⟨by rfl, ?_⟩) ?_ ?_
    rotate_left
    ·intro w'
     go_simp
     with_reducible rfl
    rotate_left
    ·exact pt_
    refine take_ (i := 2) (N := some 30) (v := ?_) (a' := ?_) #[true, true, true, true, true, false, true, false, true, false, false, false, false, false, false] rfl rfl (take_ofW HT_.out HW_.out (by kernel_rfl)) (fun _ _ _ h => h) (Or.inl ⟨by rfl, ?_⟩) hHeld ?_ ?_
    rotate_left
    ·rintro w' ⟨s0, s1, s2, s3, s4, s5⟩
     go_simp
     with_reducible rfl
    rotate_left
    ·exact pt_
    refine take_ (i := 5) (N := some 33) (v := ?_) (a' := ?_) #[true, true, true, true, true, true, true, false, true, false, false, false, false, false, false] rfl rfl (take_ofW HT_.out HW_.out (by kernel_rfl)) (fun _ _ _ h => h) (Or.inl ⟨by rfl, ?_⟩) hHeld ?_ ?_
    rotate_left
    ·rintro w' ⟨s0, s1, s2, s3, s4, s5⟩
     go_simp
     with_reducible rfl
    rotate_left
    ·exact pt_
    refine take_ (i := 7) (N := some 35) (v := ?_) (a' := ?_) #[true, true, true, true, true, true, true, true, true, false, false, false, false, false, false] rfl rfl (take_ofW HT_.out HW_.out (by kernel_rfl)) (fun _ _ _ h => h) (Or.inl ⟨by rfl, ?_⟩) hHeld ?_ ?_
    rotate_left
    ·rintro w' ⟨s0, s1, s2, s3, s4, s5⟩
     go_simp
     with_reducible rfl
    rotate_left
    ·exact pt_
    refine take_ (i := 9) (N := some 37) (v := ?_) (a' := ?_) #[true, true, true, true, true, true, true, true, true, true, false, false, false, false, false] rfl rfl (take_ofW HT_.out HW_.out (by kernel_rfl)) (fun _ _ _ h => h) (Or.inl ⟨by rfl, ?_⟩) hHeld ?_ ?_
    rotate_left
    ·rintro w' ⟨s0, s1, s2, s3, s4, s5⟩
     go_simp
     with_reducible rfl
    rotate_left
    ·exact pt_
    refine pure_ (i := 10) (N := some 38) (v := ?_) (a' := ?_) #[true, true, true, true, true, true, true, true, true, true, true, false, false, false, false] rfl rfl (any_of HT_.out (by kernel_rfl)) (fun _ _ _ h => h) (Or.inl ⟨by rfl, ?_⟩) ?_ ?_
    rotate_left
    ·intro w'
     go_simp
     with_reducible rfl
    rotate_left
    ·exact pt_
    refine join_ (σ := Value × Nat) 1 #[true, true, true, true, true, true, true, true, true, true, true, true, true, true, false] (fun s_ => [(39, s_.1), (5, .pointer (some ⟨s_.2, 0, none⟩)), (40, .agg #[.bool a0_0, s_.1])]) (fun s_ w' => (w'.cell? ⟨gb493, 0, none⟩ = some (.bool a0_0) ∧ w'.cell? ⟨gb493, 1, none⟩ = some (.slice A0_1 l0_1.length c0_1) ∧ w'.cell? ⟨gb493, 2, none⟩ = some (.int .i64 a0_2) ∧ w'.cell? ⟨gb492, 0, none⟩ = some (.bool a1_0) ∧ w'.cell? ⟨gb492, 1, none⟩ = some (.slice A1_1 l1_1.length c1_1) ∧ w'.cell? ⟨gb492, 2, none⟩ = some (.int .i64 a1_2)) ∧ (Kd.V (Kd.int .u32) 44 w' w.heap.size (fun k_ => ((P0_1_ k_ ∨ P1_1_ k_) ∨ w.heap.size ≤ k_) ∧ some k_ ≠ (s_.1 : Value).ownBlock ∧ k_ ≠ gb492 ∧ k_ ≠ gb493 ∧ k_ ≠ gb494 ∧ k_ ≠ s_.2) (.slice A0_1 l0_1.length c0_1) l0_1) ∧ (Kd.V (Kd.int .u32) 44 w' w.heap.size (fun k_ => ((P0_1_ k_ ∨ P1_1_ k_) ∨ w.heap.size ≤ k_) ∧ some k_ ≠ (s_.1 : Value).ownBlock ∧ k_ ≠ gb492 ∧ k_ ≠ gb493 ∧ k_ ≠ gb494 ∧ k_ ≠ s_.2) (.slice A1_1 l1_1.length c1_1) l1_1) ∧ (Kd.R (Kd.int .u32) 44 w' w.heap.size (fun k_ => (w.heap.size ≤ k_)) s_.1 t495) ∧ (w'.heap[gb492]? = some (.cells #[.bool a1_0, .slice A1_1 l1_1.length c1_1, .int .i64 a1_2] 31 (0, 0))) ∧ (w'.heap[gb493]? = some (.cells #[.bool a0_0, .slice A0_1 l0_1.length c0_1, .int .i64 a0_2] 31 (0, 0))) ∧ (w'.heap[gb494]? = some (.cells #[.bool false, .slice none 0 0, .int .i64 0] 31 (0, 0))) ∧ (w'.heap[s_.2]? = some (.cells #[.bool false, .slice none 0 0] 29 (0, 0))) ∧ (w.heap.size ≤ s_.2) ∧ (w.heap.size ≤ s_.2) ∧ (gb492 ≠ s_.2) ∧ (s_.2 ≠ gb492) ∧ (gb493 ≠ s_.2) ∧ (s_.2 ≠ gb493) ∧ (gb494 ≠ s_.2) ∧ (s_.2 ≠ gb494) ∧ (Below w.heap.size w w')) ?_ ?_
    rotate_left
    ·intro hCont
     refine two_ (i := 11) (j := 13) (Ni := some 39) (Nj := some 5) #[true, true, true, true, true, true, true, true, true, true, true, true, false, false, false] #[true, true, true, true, true, true, true, true, true, true, true, false, false, true, false] rfl rfl rfl rfl (two_of HT_.out (by kernel_rfl)) (by decide) (by decide) (fun K hK => ?_) (fun K hK => ?_)
     ·skip
      refine gs_ Tryd.func38 #[.slice A0_1 l0_1.length c0_1, .int .i64 (wrap64 (a0_2 - a1_2))] ?_
      with_reducible refine (nat_Shl.calls k _ _ l0_1 (wrap64 (a0_2 - a1_2)) t495 _ ?side1 ?side2 A24.out).mono ?_
      (case side1 => exact kc_ (Kd.V_reads' HO0_1.out).2.2)
      (case side2 => exact (Kd.V_reads' HO0_1.out).2.1)
      rintro e w37 ⟨v496, rfl, ho0, hb⟩
      refine ⟨_, rfl, ?_⟩
      have n0_ := Aside0.mk (Kd.V_elder' (by (with_reducible repeat (first | apply Kd.V_alloc | apply Kd.V_drewN | apply Kd.V_drew)); exact HO0_1.out) (Kd.R_base ho0) hb)
      have n1_ := Aside0.mk (Kd.V_elder' (by (with_reducible repeat (first | apply Kd.V_alloc | apply Kd.V_drewN | apply Kd.V_drew)); exact HO1_1.out) (Kd.R_base ho0) hb)
      have n2_ := Aside0.mk (Kd.R_lower (Kd.R_newM (M := fun k_ => (w.heap.size ≤ k_)) ho0 (below_size (bw_ HB.out)) (fun k_ h_ => h_)) (below_size (bw_ HB.out)))
      have n3_ := kq_ BK492 hb
      have n4_ := kq_ BK493 hb
      have n5_ := kq_ BK494 hb
      have n6_ := bq_ HB hb
      clear HO0_1
      clear HO1_1
      clear BK492
      clear BK493
      clear BK494
      clear HB
      have HO0_1 := n0_
      have HO1_1 := n1_
      have HO497 := n2_
      have BK492 := n3_
      have BK493 := n4_
      have BK494 := n5_
      have HB := n6_
      clear n0_ n1_ n2_ n3_ n4_ n5_ n6_
      (try clear hb)
      (try clear hb2)
      (try clear hk)
      (try clear hi)
      (try clear ho0)
      obtain ⟨Ao38, co38, eo38⟩ := Kd.R_slice HO497.out
      (first | subst eo38 | (injection eo38 with f1_ f2_ f3_; have f4_ := f1_.symm; have f5_ := f3_.symm; clear f1_ f2_ f3_; subst f4_; subst f5_))
      refine hK.out _ _ ⟨(blk_cell BK493.out 0).trans rfl, (blk_cell BK493.out 1).trans rfl, (blk_cell BK493.out 2).trans rfl, (blk_cell BK492.out 0).trans rfl, (blk_cell BK492.out 1).trans rfl, (blk_cell BK492.out 2).trans rfl⟩ (fun hHeld => ?_)
      clear hK K
      refine norm_ (a' := ?_) ?_ ?_
      rotate_left
      ·show Act.put _ (some 39) _ = _
       exact pt_
      refine pure_ (i := 12) (N := some 40) (v := ?_) (a' := ?_) #[true, true, true, true, true, true, true, true, true, true, true, true, true, false, false] rfl rfl (any_of HT_.out (by kernel_rfl)) (fun _ _ _ h => h) (Or.inl ⟨by rfl, ?_⟩) ?_ ?_
      rotate_left
      ·intro w'
       go_simp
       with_reducible rfl
      rotate_left
      ·exact pt_
      refine one_ (i := 13) (N := some 5) #[true, true, true, true, true, true, true, true, true, true, true, true, true, true, false] rfl rfl (one_of HT_.out (by kernel_rfl)) (by decide) (fun K hK => ?_)
      refine box_step ?hg (N := 5) ?hd (cs := #[.bool false, .slice none 0 0]) (t := 29) ?hr ?_; (case hd => rfl); (case hg => rfl); (case hr => first | (go_simp; done) | (go_simp; rfl))
      intro gb498 hg w39 hbox hb
      have n0_ := Aside0.mk (Kd.V_below (Kd.V_elderB (by (with_reducible repeat (first | apply Kd.V_alloc | apply Kd.V_drewN | apply Kd.V_drew)); exact HO0_1.out) gb498 (Nat.le_of_eq hg.symm)) hb)
      have n1_ := Aside0.mk (Kd.V_below (Kd.V_elderB (by (with_reducible repeat (first | apply Kd.V_alloc | apply Kd.V_drewN | apply Kd.V_drew)); exact HO1_1.out) gb498 (Nat.le_of_eq hg.symm)) hb)
      have n2_ := Aside0.mk (Kd.R_below (kr_ HO497.out) hb)
      have n3_ := kq_ BK492 hb
      have n4_ := kq_ BK493 hb
      have n5_ := kq_ BK494 hb
      have n6_ := bq_ HB hb
      have n7_ := Aside0.mk (hbox)
      have n8_ := ge_ hg HB
      have n9_ := ge_ hg HB
      have n10_ := nb_ hg BK492
      have n11_ := nc_ hg BK492
      have n12_ := nb_ hg BK493
      have n13_ := nc_ hg BK493
      have n14_ := nb_ hg BK494
      have n15_ := nc_ hg BK494
      clear HO0_1
      clear HO1_1
      clear HO497
      clear BK492
      clear BK493
      clear BK494
      clear HB
      have HO0_1 := n0_
      have HO1_1 := n1_
      have HO497 := n2_
      have BK492 := n3_
      have BK493 := n4_
      have BK494 := n5_
      have HB := n6_
      have BK498 := n7_
      have GW498 := n8_
      have GE498 := n9_
      have NB492_498 := n10_
      have NB498_492 := n11_
      have NB493_498 := n12_
      have NB498_493 := n13_
      have NB494_498 := n14_
      have NB498_494 := n15_
      clear n0_ n1_ n2_ n3_ n4_ n5_ n6_ n7_ n8_ n9_ n10_ n11_ n12_ n13_ n14_ n15_
      clear hb hbox hg
      refine hK.out _ _ ⟨(blk_cell BK493.out 0).trans rfl, (blk_cell BK493.out 1).trans rfl, (blk_cell BK493.out 2).trans rfl, (blk_cell BK492.out 0).trans rfl, (blk_cell BK492.out 1).trans rfl, (blk_cell BK492.out 2).trans rfl⟩ (fun hHeld => ?_)
      clear hK K
      refine norm_ (a' := ?_) ?_ ?_
      rotate_left
      ·show Act.put _ (some 5) _ = _
       exact pt_
      exact norm_ (by simp only [putAll, Act.put, List.setIfInBounds_toArray, List.set_cons_zero, List.set_cons_succ]) (hCont (.slice Ao38 t495.length co38, gb498) _ ⟨hHeld, (by (with_reducible repeat (first | apply Kd.V_alloc | apply Kd.V_drewN | apply Kd.V_drew)); exact Kd.V_mono HO0_1.out (fun _ hk => by first | exact ⟨hk.1.1.1, ⟨hk.1.2, ⟨hk.1.1.2.1, ⟨hk.1.1.2.2.1, ⟨hk.1.1.2.2.2, hk.2⟩⟩⟩⟩⟩ | simp [hk])), (by (with_reducible repeat (first | apply Kd.V_alloc | apply Kd.V_drewN | apply Kd.V_drew)); exact Kd.V_mono HO1_1.out (fun _ hk => by first | exact ⟨hk.1.1.1, ⟨hk.1.2, ⟨hk.1.1.2.1, ⟨hk.1.1.2.2.1, ⟨hk.1.1.2.2.2, hk.2⟩⟩⟩⟩⟩ | simp [hk])), (kr_ (Kd.R_mono HO497.out (fun _ hk => hk.1))), (kb_ BK492.out), (kb_ BK493.out), (kb_ BK494.out), (kb_ BK498.out), GW498.out, GE498.out, NB492_498.out, NB498_492.out, NB493_498.out, NB498_493.out, NB494_498.out, NB498_494.out, (bw_ HB.out)⟩)
     ·skip
      refine box_step ?hg (N := 5) ?hd (cs := #[.bool false, .slice none 0 0]) (t := 29) ?hr ?_; (case hd => rfl); (case hg => rfl); (case hr => first | (go_simp; done) | (go_simp; rfl))
      intro gb498 hg w37 hbox hb
      have n0_ := Aside0.mk (Kd.V_below (Kd.V_elderB (by (with_reducible repeat (first | apply Kd.V_alloc | apply Kd.V_drewN | apply Kd.V_drew)); exact HO0_1.out) gb498 (Nat.le_of_eq hg.symm)) hb)
      have n1_ := Aside0.mk (Kd.V_below (Kd.V_elderB (by (with_reducible repeat (first | apply Kd.V_alloc | apply Kd.V_drewN | apply Kd.V_drew)); exact HO1_1.out) gb498 (Nat.le_of_eq hg.symm)) hb)
      have n2_ := kq_ BK492 hb
      have n3_ := kq_ BK493 hb
      have n4_ := kq_ BK494 hb
      have n5_ := bq_ HB hb
      have n6_ := Aside0.mk (hbox)
      have n7_ := ge_ hg HB
      have n8_ := ge_ hg HB
      have n9_ := nb_ hg BK492
      have n10_ := nc_ hg BK492
      have n11_ := nb_ hg BK493
      have n12_ := nc_ hg BK493
      have n13_ := nb_ hg BK494
      have n14_ := nc_ hg BK494
      clear HO0_1
      clear HO1_1
      clear BK492
      clear BK493
      clear BK494
      clear HB
      have HO0_1 := n0_
      have HO1_1 := n1_
      have BK492 := n2_
      have BK493 := n3_
      have BK494 := n4_
      have HB := n5_
      have BK498 := n6_
      have GW498 := n7_
      have GE498 := n8_
      have NB492_498 := n9_
      have NB498_492 := n10_
      have NB493_498 := n11_
      have NB498_493 := n12_
      have NB494_498 := n13_
      have NB498_494 := n14_
      clear n0_ n1_ n2_ n3_ n4_ n5_ n6_ n7_ n8_ n9_ n10_ n11_ n12_ n13_ n14_
      clear hb hbox hg
      refine hK.out _ _ ⟨(blk_cell BK493.out 0).trans rfl, (blk_cell BK493.out 1).trans rfl, (blk_cell BK493.out 2).trans rfl, (blk_cell BK492.out 0).trans rfl, (blk_cell BK492.out 1).trans rfl, (blk_cell BK492.out 2).trans rfl⟩ (fun hHeld => ?_)
      clear hK K
      refine norm_ (a' := ?_) ?_ ?_
      rotate_left
      ·show Act.put _ (some 5) _ = _
       exact pt_
      refine one_ (i := 11) (N := some 39) #[true, true, true, true, true, true, true, true, true, true, true, true, false, true, false] rfl rfl (one_of HT_.out (by kernel_rfl)) (by decide) (fun K hK => ?_)
      refine gs_ Tryd.func38 #[.slice A0_1 l0_1.length c0_1, .int .i64 (wrap64 (a0_2 - a1_2))] ?_
      with_reducible refine (nat_Shl.calls k _ _ l0_1 (wrap64 (a0_2 - a1_2)) t495 _ ?side1 ?side2 A24.out).mono ?_
      (case side1 => exact kc_ (Kd.V_reads' HO0_1.out).2.2)
      (case side2 => exact (Kd.V_reads' HO0_1.out).2.1)
      rintro e w38 ⟨v496, rfl, ho0, hb⟩
      refine ⟨_, rfl, ?_⟩
      have n0_ := Aside0.mk (Kd.V_elder' (by (with_reducible repeat (first | apply Kd.V_alloc | apply Kd.V_drewN | apply Kd.V_drew)); exact HO0_1.out) (Kd.R_base ho0) hb)
      have n1_ := Aside0.mk (Kd.V_elder' (by (with_reducible repeat (first | apply Kd.V_alloc | apply Kd.V_drewN | apply Kd.V_drew)); exact HO1_1.out) (Kd.R_base ho0) hb)
      have n2_ := Aside0.mk (Kd.R_lower (Kd.R_newM (M := fun k_ => (w.heap.size ≤ k_)) ho0 (below_size (bw_ HB.out)) (fun k_ h_ => h_)) (below_size (bw_ HB.out)))
      have n3_ := kq_ BK492 hb
      have n4_ := kq_ BK493 hb
      have n5_ := kq_ BK494 hb
      have n6_ := kq_ BK498 hb
      have n7_ := bq_ HB hb
      clear HO0_1
      clear HO1_1
      clear BK492
      clear BK493
      clear BK494
      clear BK498
      clear HB
      have HO0_1 := n0_
      have HO1_1 := n1_
      have HO497 := n2_
      have BK492 := n3_
      have BK493 := n4_
      have BK494 := n5_
      have BK498 := n6_
      have HB := n7_
      clear n0_ n1_ n2_ n3_ n4_ n5_ n6_ n7_
      (try clear hb)
      (try clear hb2)
      (try clear hk)
      (try clear hi)
      (try clear ho0)
      obtain ⟨Ao39, co39, eo39⟩ := Kd.R_slice HO497.out
      (first | subst eo39 | (injection eo39 with f1_ f2_ f3_; have f4_ := f1_.symm; have f5_ := f3_.symm; clear f1_ f2_ f3_; subst f4_; subst f5_))
      refine hK.out _ _ ⟨(blk_cell BK493.out 0).trans rfl, (blk_cell BK493.out 1).trans rfl, (blk_cell BK493.out 2).trans rfl, (blk_cell BK492.out 0).trans rfl, (blk_cell BK492.out 1).trans rfl, (blk_cell BK492.out 2).trans rfl⟩ (fun hHeld => ?_)
      clear hK K
      refine norm_ (a' := ?_) ?_ ?_
      rotate_left
      ·show Act.put _ (some 39) _ = _
       exact pt_
      refine pure_ (i := 12) (N := some 40) (v := ?_) (a' := ?_) #[true, true, true, true, true, true, true, true, true, true, true, true, true, true, false] rfl rfl (any_of HT_.out (by kernel_rfl)) (fun _ _ _ h => h) (Or.inl ⟨by rfl, ?_⟩) ?_ ?_
      rotate_left
      ·intro w'
       go_simp
       with_reducible rfl
      rotate_left
      ·exact pt_
      exact norm_ (by simp only [putAll, Act.put, List.setIfInBounds_toArray, List.set_cons_zero, List.set_cons_succ]) (hCont (.slice Ao39 t495.length co39, gb498) _ ⟨hHeld, (by (with_reducible repeat (first | apply Kd.V_alloc | apply Kd.V_drewN | apply Kd.V_drew)); exact Kd.V_mono HO0_1.out (fun _ hk => by first | exact ⟨hk.1.1.1, ⟨hk.2, ⟨hk.1.1.2.1, ⟨hk.1.1.2.2.1, ⟨hk.1.1.2.2.2, hk.1.2⟩⟩⟩⟩⟩ | simp [hk])), (by (with_reducible repeat (first | apply Kd.V_alloc | apply Kd.V_drewN | apply Kd.V_drew)); exact Kd.V_mono HO1_1.out (fun _ hk => by first | exact ⟨hk.1.1.1, ⟨hk.2, ⟨hk.1.1.2.1, ⟨hk.1.1.2.2.1, ⟨hk.1.1.2.2.2, hk.1.2⟩⟩⟩⟩⟩ | simp [hk])), (kr_ (Kd.R_mono HO497.out (fun _ hk => hk.1))), (kb_ BK492.out), (kb_ BK493.out), (kb_ BK494.out), (kb_ BK498.out), GW498.out, GE498.out, NB492_498.out, NB498_492.out, NB493_498.out, NB498_493.out, NB494_498.out, NB498_494.out, (bw_ HB.out)⟩)
    rintro ⟨v496, gb498⟩ w40 ⟨hS_, h0_, h1_, h2_, h3_, h4_, h5_, h6_, h7_, h8_, h9_, h10_, h11_, h12_, h13_, h14_, h15_⟩
    have HO497 := Aside0.mk h2_
    have BK498 := Aside0.mk h6_
    have GW498 := Aside0.mk h7_
    have GE498 := Aside0.mk h8_
    have NB492_498 := Aside0.mk h9_
    have NB498_492 := Aside0.mk h10_
    have NB493_498 := Aside0.mk h11_
    have NB498_493 := Aside0.mk h12_
    have NB494_498 := Aside0.mk h13_
    have NB498_494 := Aside0.mk h14_
    replace HO0_1 := Aside0.mk h0_
    replace HO1_1 := Aside0.mk h1_
    replace BK492 := Aside0.mk h3_
    replace BK493 := Aside0.mk h4_
    replace BK494 := Aside0.mk h5_
    replace HB := Aside0.mk h15_
    clear h0_ h1_ h2_ h3_ h4_ h5_ h6_ h7_ h8_ h9_ h10_ h11_ h12_ h13_ h14_ h15_
    have hHeld : w40.cell? ⟨gb493, 0, none⟩ = some (.bool a0_0) ∧ w40.cell? ⟨gb493, 1, none⟩ = some (.slice A0_1 l0_1.length c0_1) ∧ w40.cell? ⟨gb493, 2, none⟩ = some (.int .i64 a0_2) ∧ w40.cell? ⟨gb492, 0, none⟩ = some (.bool a1_0) ∧ w40.cell? ⟨gb492, 1, none⟩ = some (.slice A1_1 l1_1.length c1_1) ∧ w40.cell? ⟨gb492, 2, none⟩ = some (.int .i64 a1_2) := hS_
    obtain ⟨Ao41, co41, eo41⟩ := Kd.R_slice HO497.out
    (first | subst eo41 | (injection eo41 with f1_ f2_ f3_; have f4_ := f1_.symm; have f5_ := f3_.symm; clear f1_ f2_ f3_; subst f4_; subst f5_))
    refine norm_ (a' := ?_) ?_ ?_
    rotate_left
    ·simp only [putAll, Act.put, List.setIfInBounds_toArray, List.set_cons_zero, List.set_cons_succ]
     rfl
    refine one_ (i := 14) (N := none) #[true, true, true, true, true, true, true, true, true, true, true, true, true, true, true] rfl rfl (one_of HT_.out (by kernel_rfl)) (by decide) (fun K hK => ?_)
    have hs42 : w40.cell? ⟨gb498, 0, none⟩ = some (.bool false) := (blk_cell BK498.out 0).trans rfl
    have hfs42 := fz_ BK498 0
    have hns42_0 := NB492_498.out
    have hns42_1 := NB493_498.out
    have hns42_2 := NB494_498.out
    have hms42_0 := NB498_492.out
    have hms42_1 := NB498_493.out
    have hms42_2 := NB498_494.out
    have hs43 : w40.cell? ⟨gb498, 1, none⟩ = some (.slice none 0 0) := (blk_cell BK498.out 1).trans rfl
    have hfs43 := fz_ BK498 1
    have hns43_0 := NB492_498.out
    have hns43_1 := NB493_498.out
    have hns43_2 := NB494_498.out
    have hms43_0 := NB498_492.out
    have hms43_1 := NB498_493.out
    have hms43_2 := NB498_494.out
    refine skip_ (w1 := ?_) (by rfl) rfl ?_ ?_
    rotate_left
    ·go_simp
     rfl
    refine hK.out _ _ ⟨((cell_far (p := ⟨gb498, _, none⟩) NB493_498.out _).trans (((cell_far (p := ⟨gb498, _, none⟩) NB493_498.out _).trans (hHeld.1)))), ((cell_far (p := ⟨gb498, _, none⟩) NB493_498.out _).trans (((cell_far (p := ⟨gb498, _, none⟩) NB493_498.out _).trans (hHeld.2.1)))), ((cell_far (p := ⟨gb498, _, none⟩) NB493_498.out _).trans (((cell_far (p := ⟨gb498, _, none⟩) NB493_498.out _).trans (hHeld.2.2.1)))), ((cell_far (p := ⟨gb498, _, none⟩) NB492_498.out _).trans (((cell_far (p := ⟨gb498, _, none⟩) NB492_498.out _).trans (hHeld.2.2.2.1)))), ((cell_far (p := ⟨gb498, _, none⟩) NB492_498.out _).trans (((cell_far (p := ⟨gb498, _, none⟩) NB492_498.out _).trans (hHeld.2.2.2.2.1)))), ((cell_far (p := ⟨gb498, _, none⟩) NB492_498.out _).trans (((cell_far (p := ⟨gb498, _, none⟩) NB492_498.out _).trans (hHeld.2.2.2.2.2))))⟩ (fun hHeld => ?_)
    clear hK K
    refine done_ (done_of HT_.out (by kernel_rfl)) ?_
    try go_wp2
    have n0_ : Aside0 (Kd.V (Kd.int .u32) 44 ((w40.setCell ⟨gb498, 0, none⟩ (.bool a0_0)).setCell ⟨gb498, 1, none⟩ (.slice Ao41 t495.length co41)) w.heap.size (fun k_ => ((P0_1_ k_ ∨ P1_1_ k_) ∨ w.heap.size ≤ k_) ∧ some k_ ≠ (.slice Ao41 t495.length co41 : Value).ownBlock ∧ k_ ≠ gb492 ∧ k_ ≠ gb493 ∧ k_ ≠ gb494 ∧ k_ ≠ gb498) (.slice A0_1 l0_1.length c0_1) l0_1) := ⟨by (with_reducible repeat (first | apply Kd.V_alloc | apply Kd.V_drewN | apply Kd.V_drew)); exact Kd.V_mono (Kd.V_far (p := ⟨gb498, 1, none⟩) (Kd.V_far (p := ⟨gb498, 0, none⟩) (Kd.V_mono HO0_1.out (fun k_ hk => (⟨hk, hk.2.2.2.2.2⟩ : _ ∧ k_ ≠ gb498))) (fun _ hk => hk.2) (.bool a0_0)) (fun _ hk => hk.2) (.slice Ao41 t495.length co41)) (fun _ hk => by first | exact ⟨hk.1.1, ⟨hk.1.2.1, ⟨hk.1.2.2.1, ⟨hk.1.2.2.2.1, ⟨hk.1.2.2.2.2.1, hk.1.2.2.2.2.2⟩⟩⟩⟩⟩ | simp [hk])⟩
    have n1_ : Aside0 (Kd.V (Kd.int .u32) 44 ((w40.setCell ⟨gb498, 0, none⟩ (.bool a0_0)).setCell ⟨gb498, 1, none⟩ (.slice Ao41 t495.length co41)) w.heap.size (fun k_ => ((P0_1_ k_ ∨ P1_1_ k_) ∨ w.heap.size ≤ k_) ∧ some k_ ≠ (.slice Ao41 t495.length co41 : Value).ownBlock ∧ k_ ≠ gb492 ∧ k_ ≠ gb493 ∧ k_ ≠ gb494 ∧ k_ ≠ gb498) (.slice A1_1 l1_1.length c1_1) l1_1) := ⟨by (with_reducible repeat (first | apply Kd.V_alloc | apply Kd.V_drewN | apply Kd.V_drew)); exact Kd.V_mono (Kd.V_far (p := ⟨gb498, 1, none⟩) (Kd.V_far (p := ⟨gb498, 0, none⟩) (Kd.V_mono HO1_1.out (fun k_ hk => (⟨hk, hk.2.2.2.2.2⟩ : _ ∧ k_ ≠ gb498))) (fun _ hk => hk.2) (.bool a0_0)) (fun _ hk => hk.2) (.slice Ao41 t495.length co41)) (fun _ hk => by first | exact ⟨hk.1.1, ⟨hk.1.2.1, ⟨hk.1.2.2.1, ⟨hk.1.2.2.2.1, ⟨hk.1.2.2.2.2.1, hk.1.2.2.2.2.2⟩⟩⟩⟩⟩ | simp [hk])⟩
    have n2_ : Aside0 (Kd.R (Kd.int .u32) 44 ((w40.setCell ⟨gb498, 0, none⟩ (.bool a0_0)).setCell ⟨gb498, 1, none⟩ (.slice Ao41 t495.length co41)) w.heap.size (fun k_ => (w.heap.size ≤ k_)) (.slice Ao41 t495.length co41) t495) := ⟨by (with_reducible repeat (first | apply Kd.R_alloc | apply Kd.R_drewN | apply Kd.R_drew)); exact Kd.R_mono (Kd.R_far (p := ⟨gb498, 1, none⟩) (Kd.R_far (p := ⟨gb498, 0, none⟩) (Kd.R_types HO497.out BK498.out (by decide)) (fun _ hk => hk.2) (.bool a0_0)) (fun _ hk => hk.2) (.slice Ao41 t495.length co41)) (fun _ hk => hk.1)⟩
    have n3_ : Aside0 (((w40.setCell ⟨gb498, 0, none⟩ (.bool a0_0)).setCell ⟨gb498, 1, none⟩ (.slice Ao41 t495.length co41)).heap[gb492]? = some (.cells #[.bool a1_0, .slice A1_1 l1_1.length c1_1, .int .i64 a1_2] 31 (0, 0))) := ⟨by refine kb_ ?_; refine bf_ NB492_498 ?_; refine bf_ NB492_498 ?_; exact BK492.out⟩
    have n4_ : Aside0 (((w40.setCell ⟨gb498, 0, none⟩ (.bool a0_0)).setCell ⟨gb498, 1, none⟩ (.slice Ao41 t495.length co41)).heap[gb493]? = some (.cells #[.bool a0_0, .slice A0_1 l0_1.length c0_1, .int .i64 a0_2] 31 (0, 0))) := ⟨by refine kb_ ?_; refine bf_ NB493_498 ?_; refine bf_ NB493_498 ?_; exact BK493.out⟩
    have n5_ : Aside0 (((w40.setCell ⟨gb498, 0, none⟩ (.bool a0_0)).setCell ⟨gb498, 1, none⟩ (.slice Ao41 t495.length co41)).heap[gb494]? = some (.cells #[.bool false, .slice none 0 0, .int .i64 0] 31 (0, 0))) := ⟨by refine kb_ ?_; refine bf_ NB494_498 ?_; refine bf_ NB494_498 ?_; exact BK494.out⟩
    have n6_ : Aside0 (((w40.setCell ⟨gb498, 0, none⟩ (.bool a0_0)).setCell ⟨gb498, 1, none⟩ (.slice Ao41 t495.length co41)).heap[gb498]? = some (.cells #[.bool a0_0, .slice Ao41 t495.length co41] 29 (0, 0))) := ⟨by refine kb_ ?_; refine bp_ #[.bool a0_0, .slice none 0 0] 1 ?_; refine bp_ #[.bool false, .slice none 0 0] 0 ?_; exact BK498.out⟩
    have n7_ : Aside0 (Below w.heap.size w ((w40.setCell ⟨gb498, 0, none⟩ (.bool a0_0)).setCell ⟨gb498, 1, none⟩ (.slice Ao41 t495.length co41))) := ⟨bw_ HB.out⟩
    (try clear HO0_1)
    (try clear HO1_1)
    (try clear HO497)
    (try clear BK492)
    (try clear BK493)
    (try clear BK494)
    (try clear BK498)
    (try clear HB)
    generalize ((w40.setCell ⟨gb498, 0, none⟩ (.bool a0_0)).setCell ⟨gb498, 1, none⟩ (.slice Ao41 t495.length co41)) = w44 at n0_ n1_ n2_ n3_ n4_ n5_ n6_ n7_ ⊢
    have HO0_1 := n0_
    have HO1_1 := n1_
    have HO497 := n2_
    have BK492 := n3_
    have BK493 := n4_
    have BK494 := n5_
    have BK498 := n6_
    have HB := n7_
    clear n0_ n1_ n2_ n3_ n4_ n5_ n6_ n7_
    replace HO0_1 := Aside0.mk (Kd.V_drew HO0_1.out)
    replace HO1_1 := Aside0.mk (Kd.V_drew HO1_1.out)
    replace HO497 := Aside0.mk (Kd.R_drew HO497.out)
    replace BK492 := Aside0.mk (blk_drew BK492.out)
    replace BK493 := Aside0.mk (blk_drew BK493.out)
    replace BK494 := Aside0.mk (blk_drew BK494.out)
    replace BK498 := Aside0.mk (blk_drew BK498.out)
    replace HB := Aside0.mk (below_drew1 HB.out)
    refine start_ (n := 8) (S := fun w' => w'.cell? ⟨gb492, 0, none⟩ = some (.bool a1_0) ∧ w'.cell? ⟨gb492, 1, none⟩ = some (.slice A1_1 l1_1.length c1_1) ∧ w'.cell? ⟨gb492, 2, none⟩ = some (.int .i64 a1_2) ∧ w'.cell? ⟨gb498, 0, none⟩ = some (.bool a0_0) ∧ w'.cell? ⟨gb498, 1, none⟩ = some (.slice Ao41 t495.length co41)) (ds := []) #[false, false, false, false, false, false, false, false] (by kernel_rfl) rfl rfl ⟨(blk_cell BK492.out 0).trans rfl, (blk_cell BK492.out 1).trans rfl, (blk_cell BK492.out 2).trans rfl, (blk_cell BK498.out 0).trans rfl, (blk_cell BK498.out 1).trans rfl⟩ (fun hHeld => ?_); refine with_tabW dy_add.tab8 dy_add.bits8 (fun HT_ HW_ => ?_)
    generalize w44.drew = w45 at HO0_1 HO1_1 HO497 BK492 BK493 BK494 BK498 HB hHeld ⊢
    refine pure_ (i := 0) (N := some 41) (v := ?_) (a' := ?_) #[true, false, false, false, false, false, false, false] rfl rfl (any_of HT_.out (by kernel_rfl)) (fun _ _ _ h => h) (Or.inl ⟨by rfl, ?_⟩) ?_ ?_
    rotate_left
    ·intro w'
     go_simp
     with_reducible rfl
    rotate_left
    ·exact pt_
    refine pure_ (i := 4) (N := some 45) (v := ?_) (a' := ?_) #[true, false, false, false, true, false, false, false] rfl rfl (any_of HT_.out (by kernel_rfl)) (fun _ _ _ h => h) (Or.inl ⟨by rfl, ?_⟩) ?_ ?_
    rotate_left
    ·intro w'
     go_simp
     with_reducible rfl
    rotate_left
    ·exact pt_
    refine take_ (i := 1) (N := some 42) (v := ?_) (a' := ?_) #[true, true, false, false, true, false, false, false] rfl rfl (take_ofW HT_.out HW_.out (by kernel_rfl)) (fun _ _ _ h => h) (Or.inl ⟨by rfl, ?_⟩) hHeld ?_ ?_
    rotate_left
    ·rintro w' ⟨s0, s1, s2, s3, s4⟩
     go_simp
     with_reducible rfl
    rotate_left
    ·exact pt_
    refine take_ (i := 2) (N := some 43) (v := ?_) (a' := ?_) #[true, true, true, false, true, false, false, false] rfl rfl (take_ofW HT_.out HW_.out (by kernel_rfl)) (fun _ _ _ h => h) (Or.inl ⟨by rfl, ?_⟩) hHeld ?_ ?_
    rotate_left
    ·rintro w' ⟨s0, s1, s2, s3, s4⟩
     go_simp
     with_reducible rfl
    rotate_left
    ·exact pt_
    refine take_ (i := 5) (N := some 46) (v := ?_) (a' := ?_) #[true, true, true, false, true, true, false, false] rfl rfl (take_ofW HT_.out HW_.out (by kernel_rfl)) (fun _ _ _ h => h) (Or.inl ⟨by rfl, ?_⟩) hHeld ?_ ?_
    rotate_left
    ·rintro w' ⟨s0, s1, s2, s3, s4⟩
     go_simp
     with_reducible rfl
    rotate_left
    ·exact pt_
    refine one_ (i := 3) (N := some 44) #[true, true, true, true, true, true, false, false] rfl rfl (one_of HT_.out (by kernel_rfl)) (by decide) (fun K hK => ?_)
    refine gs_ Tryd.func39 #[.agg #[.bool a1_0, .slice A1_1 l1_1.length c1_1], .agg #[.bool a0_0, .slice Ao41 t495.length co41]] ?_
    with_reducible refine (whole_Add.calls k a1_0 _ _ l1_1 a0_0 _ _ t495 t499 t500 _ ?side1 ?side2 ?side3 ?side4 A25.out).mono ?_
    (case side1 => exact kc_ (Kd.V_reads' HO1_1.out).2.2)
    (case side2 => exact (Kd.V_reads' HO1_1.out).2.1)
    (case side3 => exact kc_ (Kd.R_reads' HO497.out).2.2)
    (case side4 => exact (Kd.R_reads' HO497.out).2.1)
    rintro e w46 ⟨v501, rfl, ho0, hb⟩
    refine ⟨_, rfl, ?_⟩
    have n0_ := Aside0.mk (Kd.V_elder' (by (with_reducible repeat (first | apply Kd.V_alloc | apply Kd.V_drewN | apply Kd.V_drew)); exact HO0_1.out) (Kd.R_base ho0) hb)
    have n1_ := Aside0.mk (Kd.V_elder' (by (with_reducible repeat (first | apply Kd.V_alloc | apply Kd.V_drewN | apply Kd.V_drew)); exact HO1_1.out) (Kd.R_base ho0) hb)
    have n2_ := Aside0.mk (Kd.R_elder' (kr_ HO497.out) (Kd.R_base ho0) hb)
    have n3_ := Aside0.mk (Kd.R_lower (Kd.R_new' (Kd.R_newM (M := fun k_ => (w.heap.size ≤ k_)) ho0 (below_size (bw_ HB.out)) (fun k_ h_ => h_)) (Kd.R_lt (kr_ HO497.out))) (below_size (bw_ HB.out)))
    have n4_ := kq_ BK492 hb
    have n5_ := kq_ BK493 hb
    have n6_ := kq_ BK494 hb
    have n7_ := kq_ BK498 hb
    have n8_ := bq_ HB hb
    clear HO0_1
    clear HO1_1
    clear HO497
    clear BK492
    clear BK493
    clear BK494
    clear BK498
    clear HB
    have HO0_1 := n0_
    have HO1_1 := n1_
    have HO497 := n2_
    have HO502 := n3_
    have BK492 := n4_
    have BK493 := n5_
    have BK494 := n6_
    have BK498 := n7_
    have HB := n8_
    clear n0_ n1_ n2_ n3_ n4_ n5_ n6_ n7_ n8_
    (try clear hb)
    (try clear hb2)
    (try clear hk)
    (try clear hi)
    (try clear ho0)
    obtain ⟨Ao47, co47, eo47⟩ := Kd.R_slice HO502.out
    (first | subst eo47 | (injection eo47 with f1_ f2_ f3_; have f4_ := f1_.symm; have f5_ := f3_.symm; clear f1_ f2_ f3_; subst f4_; subst f5_))
    refine hK.out _ _ ⟨(blk_cell BK492.out 0).trans rfl, (blk_cell BK492.out 1).trans rfl, (blk_cell BK492.out 2).trans rfl, (blk_cell BK498.out 0).trans rfl, (blk_cell BK498.out 1).trans rfl⟩ (fun hHeld => ?_)
    clear hK K
    refine norm_ (a' := ?_) ?_ ?_
    rotate_left
    ·show Act.put _ (some 44) _ = _
     exact pt_
    refine one_ (i := 6) (N := some 47) #[true, true, true, true, true, true, true, false] rfl rfl (one_of HT_.out (by kernel_rfl)) (by decide) (fun K hK => ?_)
    refine gs_ Tryd.func16 #[.agg #[.bool t499, .slice Ao47 t500.length co47], .int .i64 a1_2] ?_
    with_reducible refine (dy_Make.calls k t499 _ _ t500 a1_2 t503 t504 t507 _ ?side1 ?side2 A26.out ?sidet).mono ?_
    (case sidet => exact Kd.C_below HTAB.out (bw_ HB.out))
    (case side1 => exact kc_ (Kd.R_reads' HO502.out).2.2)
    (case side2 => exact (Kd.R_reads' HO502.out).2.1)
    rintro e w48 ⟨v505, rfl, ho0, hb⟩
    refine ⟨_, rfl, ?_⟩
    have n0_ := Aside0.mk (Kd.V_elder' (by (with_reducible repeat (first | apply Kd.V_alloc | apply Kd.V_drewN | apply Kd.V_drew)); exact HO0_1.out) (Kd.R_base ho0) hb)
    have n1_ := Aside0.mk (Kd.V_elder' (by (with_reducible repeat (first | apply Kd.V_alloc | apply Kd.V_drewN | apply Kd.V_drew)); exact HO1_1.out) (Kd.R_base ho0) hb)
    have n2_ := Aside0.mk (Kd.R_elder' (kr_ HO497.out) (Kd.R_base ho0) hb)
    have n3_ := Aside0.mk (Kd.R_elder' (kr_ HO502.out) (Kd.R_base ho0) hb)
    have n4_ := Aside0.mk (Kd.R_lower (Kd.R_new' (Kd.R_new' (Kd.R_newM (M := fun k_ => (w.heap.size ≤ k_)) ho0 (below_size (bw_ HB.out)) (fun k_ h_ => h_)) (Kd.R_lt (kr_ HO497.out))) (Kd.R_lt (kr_ HO502.out))) (below_size (bw_ HB.out)))
    have n5_ := kq_ BK492 hb
    have n6_ := kq_ BK493 hb
    have n7_ := kq_ BK494 hb
    have n8_ := kq_ BK498 hb
    have n9_ := bq_ HB hb
    clear HO0_1
    clear HO1_1
    clear HO497
    clear HO502
    clear BK492
    clear BK493
    clear BK494
    clear BK498
    clear HB
    have HO0_1 := n0_
    have HO1_1 := n1_
    have HO497 := n2_
    have HO502 := n3_
    have HO506 := n4_
    have BK492 := n5_
    have BK493 := n6_
    have BK494 := n7_
    have BK498 := n8_
    have HB := n9_
    clear n0_ n1_ n2_ n3_ n4_ n5_ n6_ n7_ n8_ n9_
    (try clear hb)
    (try clear hb2)
    (try clear hk)
    (try clear hi)
    (try clear ho0)
    obtain ⟨Ao50, co50, eo50⟩ := Kd.R_slice HO506.out
    (first | subst eo50 | (injection eo50 with f1_ f2_ f3_; have f4_ := f1_.symm; have f5_ := f3_.symm; clear f1_ f2_ f3_; subst f4_; subst f5_))
    refine hK.out _ _ ⟨(blk_cell BK492.out 0).trans rfl, (blk_cell BK492.out 1).trans rfl, (blk_cell BK492.out 2).trans rfl, (blk_cell BK498.out 0).trans rfl, (blk_cell BK498.out 1).trans rfl⟩ (fun hHeld => ?_)
    clear hK K
    refine norm_ (a' := ?_) ?_ ?_
    rotate_left
    ·show Act.put _ (some 47) _ = _
     exact pt_
    refine one_ (i := 7) (N := none) #[true, true, true, true, true, true, true, true] rfl rfl (one_of HT_.out (by kernel_rfl)) (by decide) (fun K hK => ?_)
    have hs49 : w48.cell? ⟨gb494, 0, none⟩ = some (.bool false) := (blk_cell BK494.out 0).trans rfl
    have hfs49 := fz_ BK494 0
    have hns49_0 := NB492_494.out
    have hns49_1 := NB493_494.out
    have hns49_3 := NB498_494.out
    have hms49_0 := NB494_492.out
    have hms49_1 := NB494_493.out
    have hms49_3 := NB494_498.out
    have hs51 : w48.cell? ⟨gb494, 1, none⟩ = some (.slice none 0 0) := (blk_cell BK494.out 1).trans rfl
    have hfs51 := fz_ BK494 1
    have hns51_0 := NB492_494.out
    have hns51_1 := NB493_494.out
    have hns51_3 := NB498_494.out
    have hms51_0 := NB494_492.out
    have hms51_1 := NB494_493.out
    have hms51_3 := NB494_498.out
    have hs52 : w48.cell? ⟨gb494, 2, none⟩ = some (.int .i64 0) := (blk_cell BK494.out 2).trans rfl
    have hfs52 := fz_ BK494 2
    have hns52_0 := NB492_494.out
    have hns52_1 := NB493_494.out
    have hns52_3 := NB498_494.out
    have hms52_0 := NB494_492.out
    have hms52_1 := NB494_493.out
    have hms52_3 := NB494_498.out
    refine skip_ (w1 := ?_) (by rfl) rfl ?_ ?_
    rotate_left
    ·go_simp
     rfl
    refine hK.out _ _ ⟨((cell_far (p := ⟨gb494, _, none⟩) NB492_494.out _).trans (((cell_far (p := ⟨gb494, _, none⟩) NB492_494.out _).trans (((cell_far (p := ⟨gb494, _, none⟩) NB492_494.out _).trans (hHeld.1)))))), ((cell_far (p := ⟨gb494, _, none⟩) NB492_494.out _).trans (((cell_far (p := ⟨gb494, _, none⟩) NB492_494.out _).trans (((cell_far (p := ⟨gb494, _, none⟩) NB492_494.out _).trans (hHeld.2.1)))))), ((cell_far (p := ⟨gb494, _, none⟩) NB492_494.out _).trans (((cell_far (p := ⟨gb494, _, none⟩) NB492_494.out _).trans (((cell_far (p := ⟨gb494, _, none⟩) NB492_494.out _).trans (hHeld.2.2.1)))))), ((cell_far (p := ⟨gb494, _, none⟩) NB498_494.out _).trans (((cell_far (p := ⟨gb494, _, none⟩) NB498_494.out _).trans (((cell_far (p := ⟨gb494, _, none⟩) NB498_494.out _).trans (hHeld.2.2.2.1)))))), ((cell_far (p := ⟨gb494, _, none⟩) NB498_494.out _).trans (((cell_far (p := ⟨gb494, _, none⟩) NB498_494.out _).trans (((cell_far (p := ⟨gb494, _, none⟩) NB498_494.out _).trans (hHeld.2.2.2.2))))))⟩ (fun hHeld => ?_)
    clear hK K
    refine done_ (done_of HT_.out (by kernel_rfl)) ?_
    try go_wp2
    refine bodyPost_ret (results_cell_row rfl _ _ gb494 31 #[.bool t503, .slice Ao50 t504.length co50, .int .i64 t507] (0, 0) _ rfl (by refine kb_ ?_; refine bp_ #[.bool t503, .slice Ao50 t504.length co50, .int .i64 0] 2 ?_; refine bp_ #[.bool t503, .slice none 0 0, .int .i64 0] 1 ?_; refine bp_ #[.bool false, .slice none 0 0, .int .i64 0] 0 ?_; exact BK494.out) Tryd.underlying31 rfl (by kernel_rfl)) rfl ?_
    exact ⟨_, rf_, Kd.V_mono (Kd.R_V (kr_ (Kd.R_mono (Kd.R_far (p := ⟨gb494, 2, none⟩) (Kd.R_far (p := ⟨gb494, 1, none⟩) (Kd.R_far (p := ⟨gb494, 0, none⟩) (Kd.R_types HO506.out BK494.out (by decide)) (fun _ hk => hk.2) (.bool t503)) (fun _ hk => hk.2) (.slice Ao50 t504.length co50)) (fun _ hk => hk.2) (.int .i64 t507)) (fun _ hk => hk.1.1.1.1)))) (fun k_ hk => by first | exact ⟨(.inr (hk.1)), hk.2⟩ | exact (.inr (hk))), bw_ HB.out⟩
   ·rw [if_neg c23] at H
    have c23b0 : decide (a1_2 < a0_2) = false := decide_eq_false c23
    clear c23
    replace H := Option.bind_eq_some_iff.mp H
    obtain ⟨t508, A530, H⟩ := H
    (try dsimp only at H)
    have A53 := Aside0.mk A530
    clear A530
    replace H := Option.bind_eq_some_iff.mp H
    obtain ⟨⟨t512, t513⟩, A540, H⟩ := H
    (try dsimp only at H)
    have A54 := Aside0.mk A540
    clear A540
    replace H := Option.bind_eq_some_iff.mp H
    obtain ⟨⟨t516, t517, t520⟩, A550, H⟩ := H
    (try dsimp only at H)
    have A55 := Aside0.mk A550
    clear A550
    simp only [Option.some.injEq, Prod.mk.injEq] at H
    obtain ⟨rfl, rfl, rfl⟩ := H
    go_enter Tryd.func18, Tryd.ntmps18
    try go_wp2_with (first | ((with_reducible refine gate_dst (N := 2) rfl ?_); refine bx_ 2 #[.bool a0_0, .slice A0_1 l0_1.length c0_1, .int .i64 a0_2] 31 ?_; intro gb492 hg w56 hbox hb; have n0_ := Aside0.mk (Kd.V_below (Kd.V_elderB (by (with_reducible repeat (first | apply Kd.V_alloc | apply Kd.V_drewN | apply Kd.V_drew)); exact HO0_1.out) gb492 (Nat.le_of_eq hg.symm)) hb); have n1_ := Aside0.mk (Kd.V_below (Kd.V_elderB (by (with_reducible repeat (first | apply Kd.V_alloc | apply Kd.V_drewN | apply Kd.V_drew)); exact HO1_1.out) gb492 (Nat.le_of_eq hg.symm)) hb); have n2_ := bq_ HB hb; have n3_ := Aside0.mk (hbox); have n4_ := ge_ hg HB; have n5_ := ge_ hg HB; clear HO0_1; clear HO1_1; clear HB; have HO0_1 := n0_; have HO1_1 := n1_; have HB := n2_; have BK492 := n3_; have GW492 := n4_; have GE492 := n5_; clear n0_ n1_ n2_ n3_ n4_ n5_; clear hb hbox hg) | ((with_reducible refine gate_dst (N := 3) rfl ?_); refine bx_ 3 #[.bool a1_0, .slice A1_1 l1_1.length c1_1, .int .i64 a1_2] 31 ?_; intro gb493 hg w57 hbox hb; have n0_ := Aside0.mk (Kd.V_below (Kd.V_elderB (by (with_reducible repeat (first | apply Kd.V_alloc | apply Kd.V_drewN | apply Kd.V_drew)); exact HO0_1.out) gb493 (Nat.le_of_eq hg.symm)) hb); have n1_ := Aside0.mk (Kd.V_below (Kd.V_elderB (by (with_reducible repeat (first | apply Kd.V_alloc | apply Kd.V_drewN | apply Kd.V_drew)); exact HO1_1.out) gb493 (Nat.le_of_eq hg.symm)) hb); have n2_ := kq_ BK492 hb; have n3_ := bq_ HB hb; have n4_ := Aside0.mk (hbox); have n5_ := ge_ hg HB; have n6_ := ge_ hg HB; have n7_ := nb_ hg BK492; have n8_ := nc_ hg BK492; clear HO0_1; clear HO1_1; clear BK492; clear HB; have HO0_1 := n0_; have HO1_1 := n1_; have BK492 := n2_; have HB := n3_; have BK493 := n4_; have GW493 := n5_; have GE493 := n6_; have NB492_493 := n7_; have NB493_492 := n8_; clear n0_ n1_ n2_ n3_ n4_ n5_ n6_ n7_ n8_; clear hb hbox hg) | ((with_reducible refine gate_dst (N := 4) rfl ?_); refine bx_ 4 #[.bool false, .slice none 0 0, .int .i64 0] 31 ?_; intro gb494 hg w58 hbox hb; have n0_ := Aside0.mk (Kd.V_below (Kd.V_elderB (by (with_reducible repeat (first | apply Kd.V_alloc | apply Kd.V_drewN | apply Kd.V_drew)); exact HO0_1.out) gb494 (Nat.le_of_eq hg.symm)) hb); have n1_ := Aside0.mk (Kd.V_below (Kd.V_elderB (by (with_reducible repeat (first | apply Kd.V_alloc | apply Kd.V_drewN | apply Kd.V_drew)); exact HO1_1.out) gb494 (Nat.le_of_eq hg.symm)) hb); have n2_ := kq_ BK492 hb; have n3_ := kq_ BK493 hb; have n4_ := bq_ HB hb; have n5_ := Aside0.mk (hbox); have n6_ := ge_ hg HB; have n7_ := ge_ hg HB; have n8_ := nb_ hg BK492; have n9_ := nc_ hg BK492; have n10_ := nb_ hg BK493; have n11_ := nc_ hg BK493; clear HO0_1; clear HO1_1; clear BK492; clear BK493; clear HB; have HO0_1 := n0_; have HO1_1 := n1_; have BK492 := n2_; have BK493 := n3_; have HB := n4_; have BK494 := n5_; have GW494 := n6_; have GE494 := n7_; have NB492_494 := n8_; have NB494_492 := n9_; have NB493_494 := n10_; have NB494_493 := n11_; clear n0_ n1_ n2_ n3_ n4_ n5_ n6_ n7_ n8_ n9_ n10_ n11_; clear hb hbox hg; have hnb59 := NB492_493.out; have hnc59 := NB493_492.out; have hnb60 := NB492_494.out; have hnc60 := NB494_492.out; obtain ⟨hcz61_0, hcz61_1, hcz61_2, hfz61_0, hfz61_1, hfz61_2⟩ := c3_ BK492; have hnb62 := NB493_494.out; have hnc62 := NB494_493.out; obtain ⟨hcz63_0, hcz63_1, hcz63_2, hfz63_0, hfz63_1, hfz63_2⟩ := c3_ BK493))
    replace HO0_1 := Aside0.mk (Kd.V_drew HO0_1.out)
    replace HO1_1 := Aside0.mk (Kd.V_drew HO1_1.out)
    replace BK492 := Aside0.mk (blk_drew BK492.out)
    replace BK493 := Aside0.mk (blk_drew BK493.out)
    replace BK494 := Aside0.mk (blk_drew BK494.out)
    replace HB := Aside0.mk (below_drew1 HB.out)
    refine start_ (n := 15) (S := fun w' => w'.cell? ⟨gb493, 0, none⟩ = some (.bool a1_0) ∧ w'.cell? ⟨gb493, 1, none⟩ = some (.slice A1_1 l1_1.length c1_1) ∧ w'.cell? ⟨gb493, 2, none⟩ = some (.int .i64 a1_2) ∧ w'.cell? ⟨gb492, 0, none⟩ = some (.bool a0_0) ∧ w'.cell? ⟨gb492, 1, none⟩ = some (.slice A0_1 l0_1.length c0_1) ∧ w'.cell? ⟨gb492, 2, none⟩ = some (.int .i64 a0_2)) (ds := []) #[false, false, false, false, false, false, false, false, false, false, false, false, false, false, false] (by kernel_rfl) rfl rfl ⟨(blk_cell BK493.out 0).trans rfl, (blk_cell BK493.out 1).trans rfl, (blk_cell BK493.out 2).trans rfl, (blk_cell BK492.out 0).trans rfl, (blk_cell BK492.out 1).trans rfl, (blk_cell BK492.out 2).trans rfl⟩ (fun hHeld => ?_); refine with_tabW dy_add.tab7 dy_add.bits7 (fun HT_ HW_ => ?_)
    generalize w58.drew = w64 at HO0_1 HO1_1 BK492 BK493 BK494 HB hHeld ⊢
    refine pure_ (i := 0) (N := some 28) (v := ?_) (a' := ?_) #[true, false, false, false, false, false, false, false, false, false, false, false, false, false, false] rfl rfl (any_of HT_.out (by kernel_rfl)) (fun _ _ _ h => h) (Or.inl ⟨by rfl, ?_⟩) ?_ ?_
    rotate_left
    ·intro w'
     go_simp
     with_reducible rfl
    rotate_left
    ·exact pt_
    refine pure_ (i := 1) (N := some 29) (v := ?_) (a' := ?_) #[true, true, false, false, false, false, false, false, false, false, false, false, false, false, false] rfl rfl (any_of HT_.out (by kernel_rfl)) (fun _ _ _ h => h) (Or.inl ⟨by rfl, ?_⟩) ?_ ?_
    rotate_left
    ·intro w'
     go_simp
     with_reducible rfl
    rotate_left
    ·exact pt_
    refine pure_ (i := 3) (N := some 31) (v := ?_) (a' := ?_) #[true, true, false, true, false, false, false, false, false, false, false, false, false, false, false] rfl rfl (any_of HT_.out (by kernel_rfl)) (fun _ _ _ h => h) (Or.inl ⟨by rfl, ?_⟩) ?_ ?_
    rotate_left
    ·intro w'
     go_simp
     with_reducible rfl
    rotate_left
    ·exact pt_
    refine pure_ (i := 4) (N := some 32) (v := ?_) (a' := ?_) #[true, true, false, true, true, false, false, false, false, false, false, false, false, false, false] rfl rfl (any_of HT_.out (by kernel_rfl)) (fun _ _ _ h => h) (Or.inl ⟨by rfl, ?_⟩) ?_ ?_
    rotate_left
    ·intro w'
     go_simp
     with_reducible rfl
    rotate_left
    ·exact pt_
    refine pure_ (i := 6) (N := some 34) (v := ?_) (a' := ?_) #[true, true, false, true, true, false, true, false, false, false, false, false, false, false, false] rfl rfl (any_of HT_.out (by kernel_rfl)) (fun _ _ _ h => h) (Or.inl ⟨by rfl, ?_⟩) ?_ ?_
    rotate_left
    ·intro w'
     go_simp
     with_reducible rfl
    rotate_left
    ·exact pt_
    refine pure_ (i := 8) (N := some 36) (v := ?_) (a' := ?_) #[true, true, false, true, true, false, true, false, true, false, false, false, false, false, false] rfl rfl (any_of HT_.out (by kernel_rfl)) (fun _ _ _ h => h) (Or.inl ⟨by rfl, ?_⟩) ?_ ?_
    rotate_left
    ·intro w'
     go_simp
     with_reducible rfl
    rotate_left
    ·exact pt_
    refine take_ (i := 2) (N := some 30) (v := ?_) (a' := ?_) #[true, true, true, true, true, false, true, false, true, false, false, false, false, false, false] rfl rfl (take_ofW HT_.out HW_.out (by kernel_rfl)) (fun _ _ _ h => h) (Or.inl ⟨by rfl, ?_⟩) hHeld ?_ ?_
    rotate_left
    ·rintro w' ⟨s0, s1, s2, s3, s4, s5⟩
     go_simp
     with_reducible rfl
    rotate_left
    ·exact pt_
    refine take_ (i := 5) (N := some 33) (v := ?_) (a' := ?_) #[true, true, true, true, true, true, true, false, true, false, false, false, false, false, false] rfl rfl (take_ofW HT_.out HW_.out (by kernel_rfl)) (fun _ _ _ h => h) (Or.inl ⟨by rfl, ?_⟩) hHeld ?_ ?_
    rotate_left
    ·rintro w' ⟨s0, s1, s2, s3, s4, s5⟩
     go_simp
     with_reducible rfl
    rotate_left
    ·exact pt_
    refine take_ (i := 7) (N := some 35) (v := ?_) (a' := ?_) #[true, true, true, true, true, true, true, true, true, false, false, false, false, false, false] rfl rfl (take_ofW HT_.out HW_.out (by kernel_rfl)) (fun _ _ _ h => h) (Or.inl ⟨by rfl, ?_⟩) hHeld ?_ ?_
    rotate_left
    ·rintro w' ⟨s0, s1, s2, s3, s4, s5⟩
     go_simp
     with_reducible rfl
    rotate_left
    ·exact pt_
    refine take_ (i := 9) (N := some 37) (v := ?_) (a' := ?_) #[true, true, true, true, true, true, true, true, true, true, false, false, false, false, false] rfl rfl (take_ofW HT_.out HW_.out (by kernel_rfl)) (fun _ _ _ h => h) (Or.inl ⟨by rfl, ?_⟩) hHeld ?_ ?_
    rotate_left
    ·rintro w' ⟨s0, s1, s2, s3, s4, s5⟩
     go_simp
     with_reducible rfl
    rotate_left
    ·exact pt_
    refine pure_ (i := 10) (N := some 38) (v := ?_) (a' := ?_) #[true, true, true, true, true, true, true, true, true, true, true, false, false, false, false] rfl rfl (any_of HT_.out (by kernel_rfl)) (fun _ _ _ h => h) (Or.inl ⟨by rfl, ?_⟩) ?_ ?_
    rotate_left
    ·intro w'
     go_simp
     with_reducible rfl
    rotate_left
    ·exact pt_
    refine join_ (σ := Value × Nat) 1 #[true, true, true, true, true, true, true, true, true, true, true, true, true, true, false] (fun s_ => [(39, s_.1), (5, .pointer (some ⟨s_.2, 0, none⟩)), (40, .agg #[.bool a1_0, s_.1])]) (fun s_ w' => (w'.cell? ⟨gb493, 0, none⟩ = some (.bool a1_0) ∧ w'.cell? ⟨gb493, 1, none⟩ = some (.slice A1_1 l1_1.length c1_1) ∧ w'.cell? ⟨gb493, 2, none⟩ = some (.int .i64 a1_2) ∧ w'.cell? ⟨gb492, 0, none⟩ = some (.bool a0_0) ∧ w'.cell? ⟨gb492, 1, none⟩ = some (.slice A0_1 l0_1.length c0_1) ∧ w'.cell? ⟨gb492, 2, none⟩ = some (.int .i64 a0_2)) ∧ (Kd.V (Kd.int .u32) 44 w' w.heap.size (fun k_ => ((P0_1_ k_ ∨ P1_1_ k_) ∨ w.heap.size ≤ k_) ∧ some k_ ≠ (s_.1 : Value).ownBlock ∧ k_ ≠ gb492 ∧ k_ ≠ gb493 ∧ k_ ≠ gb494 ∧ k_ ≠ s_.2) (.slice A0_1 l0_1.length c0_1) l0_1) ∧ (Kd.V (Kd.int .u32) 44 w' w.heap.size (fun k_ => ((P0_1_ k_ ∨ P1_1_ k_) ∨ w.heap.size ≤ k_) ∧ some k_ ≠ (s_.1 : Value).ownBlock ∧ k_ ≠ gb492 ∧ k_ ≠ gb493 ∧ k_ ≠ gb494 ∧ k_ ≠ s_.2) (.slice A1_1 l1_1.length c1_1) l1_1) ∧ (Kd.R (Kd.int .u32) 44 w' w.heap.size (fun k_ => (w.heap.size ≤ k_)) s_.1 t508) ∧ (w'.heap[gb492]? = some (.cells #[.bool a0_0, .slice A0_1 l0_1.length c0_1, .int .i64 a0_2] 31 (0, 0))) ∧ (w'.heap[gb493]? = some (.cells #[.bool a1_0, .slice A1_1 l1_1.length c1_1, .int .i64 a1_2] 31 (0, 0))) ∧ (w'.heap[gb494]? = some (.cells #[.bool false, .slice none 0 0, .int .i64 0] 31 (0, 0))) ∧ (w'.heap[s_.2]? = some (.cells #[.bool false, .slice none 0 0] 29 (0, 0))) ∧ (w.heap.size ≤ s_.2) ∧ (w.heap.size ≤ s_.2) ∧ (gb492 ≠ s_.2) ∧ (s_.2 ≠ gb492) ∧ (gb493 ≠ s_.2) ∧ (s_.2 ≠ gb493) ∧ (gb494 ≠ s_.2) ∧ (s_.2 ≠ gb494) ∧ (Below w.heap.size w w')) ?_ ?_
    rotate_left
    ·intro hCont
     refine two_ (i := 11) (j := 13) (Ni := some 39) (Nj := some 5) #[true, true, true, true, true, true, true, true, true, true, true, true, false, false, false] #[true, true, true, true, true, true, true, true, true, true, true, false, false, true, false] rfl rfl rfl rfl (two_of HT_.out (by kernel_rfl)) (by decide) (by decide) (fun K hK => ?_) (fun K hK => ?_)
     ·skip
      refine gs_ Tryd.func38 #[.slice A1_1 l1_1.length c1_1, .int .i64 (wrap64 (a1_2 - a0_2))] ?_
      with_reducible refine (nat_Shl.calls k _ _ l1_1 (wrap64 (a1_2 - a0_2)) t508 _ ?side1 ?side2 A53.out).mono ?_
      (case side1 => exact kc_ (Kd.V_reads' HO1_1.out).2.2)
      (case side2 => exact (Kd.V_reads' HO1_1.out).2.1)
      rintro e w65 ⟨v509, rfl, ho0, hb⟩
      refine ⟨_, rfl, ?_⟩
      have n0_ := Aside0.mk (Kd.V_elder' (by (with_reducible repeat (first | apply Kd.V_alloc | apply Kd.V_drewN | apply Kd.V_drew)); exact HO0_1.out) (Kd.R_base ho0) hb)
      have n1_ := Aside0.mk (Kd.V_elder' (by (with_reducible repeat (first | apply Kd.V_alloc | apply Kd.V_drewN | apply Kd.V_drew)); exact HO1_1.out) (Kd.R_base ho0) hb)
      have n2_ := Aside0.mk (Kd.R_lower (Kd.R_newM (M := fun k_ => (w.heap.size ≤ k_)) ho0 (below_size (bw_ HB.out)) (fun k_ h_ => h_)) (below_size (bw_ HB.out)))
      have n3_ := kq_ BK492 hb
      have n4_ := kq_ BK493 hb
      have n5_ := kq_ BK494 hb
      have n6_ := bq_ HB hb
      clear HO0_1
      clear HO1_1
      clear BK492
      clear BK493
      clear BK494
      clear HB
      have HO0_1 := n0_
      have HO1_1 := n1_
      have HO510 := n2_
      have BK492 := n3_
      have BK493 := n4_
      have BK494 := n5_
      have HB := n6_
      clear n0_ n1_ n2_ n3_ n4_ n5_ n6_
      (try clear hb)
      (try clear hb2)
      (try clear hk)
      (try clear hi)
      (try clear ho0)
      obtain ⟨Ao66, co66, eo66⟩ := Kd.R_slice HO510.out
      (first | subst eo66 | (injection eo66 with f1_ f2_ f3_; have f4_ := f1_.symm; have f5_ := f3_.symm; clear f1_ f2_ f3_; subst f4_; subst f5_))
      refine hK.out _ _ ⟨(blk_cell BK493.out 0).trans rfl, (blk_cell BK493.out 1).trans rfl, (blk_cell BK493.out 2).trans rfl, (blk_cell BK492.out 0).trans rfl, (blk_cell BK492.out 1).trans rfl, (blk_cell BK492.out 2).trans rfl⟩ (fun hHeld => ?_)
      clear hK K
      refine norm_ (a' := ?_) ?_ ?_
      rotate_left
      ·show Act.put _ (some 39) _ = _
       exact pt_
      refine pure_ (i := 12) (N := some 40) (v := ?_) (a' := ?_) #[true, true, true, true, true, true, true, true, true, true, true, true, true, false, false] rfl rfl (any_of HT_.out (by kernel_rfl)) (fun _ _ _ h => h) (Or.inl ⟨by rfl, ?_⟩) ?_ ?_
      rotate_left
      ·intro w'
       go_simp
       with_reducible rfl
      rotate_left
      ·exact pt_
      refine one_ (i := 13) (N := some 5) #[true, true, true, true, true, true, true, true, true, true, true, true, true, true, false] rfl rfl (one_of HT_.out (by kernel_rfl)) (by decide) (fun K hK => ?_)
      refine box_step ?hg (N := 5) ?hd (cs := #[.bool false, .slice none 0 0]) (t := 29) ?hr ?_; (case hd => rfl); (case hg => rfl); (case hr => first | (go_simp; done) | (go_simp; rfl))
      intro gb511 hg w67 hbox hb
      have n0_ := Aside0.mk (Kd.V_below (Kd.V_elderB (by (with_reducible repeat (first | apply Kd.V_alloc | apply Kd.V_drewN | apply Kd.V_drew)); exact HO0_1.out) gb511 (Nat.le_of_eq hg.symm)) hb)
      have n1_ := Aside0.mk (Kd.V_below (Kd.V_elderB (by (with_reducible repeat (first | apply Kd.V_alloc | apply Kd.V_drewN | apply Kd.V_drew)); exact HO1_1.out) gb511 (Nat.le_of_eq hg.symm)) hb)
      have n2_ := Aside0.mk (Kd.R_below (kr_ HO510.out) hb)
      have n3_ := kq_ BK492 hb
      have n4_ := kq_ BK493 hb
      have n5_ := kq_ BK494 hb
      have n6_ := bq_ HB hb
      have n7_ := Aside0.mk (hbox)
      have n8_ := ge_ hg HB
      have n9_ := ge_ hg HB
      have n10_ := nb_ hg BK492
      have n11_ := nc_ hg BK492
      have n12_ := nb_ hg BK493
      have n13_ := nc_ hg BK493
      have n14_ := nb_ hg BK494
      have n15_ := nc_ hg BK494
      clear HO0_1
      clear HO1_1
      clear HO510
      clear BK492
      clear BK493
      clear BK494
      clear HB
      have HO0_1 := n0_
      have HO1_1 := n1_
      have HO510 := n2_
      have BK492 := n3_
      have BK493 := n4_
      have BK494 := n5_
      have HB := n6_
      have BK511 := n7_
      have GW511 := n8_
      have GE511 := n9_
      have NB492_511 := n10_
      have NB511_492 := n11_
      have NB493_511 := n12_
      have NB511_493 := n13_
      have NB494_511 := n14_
      have NB511_494 := n15_
      clear n0_ n1_ n2_ n3_ n4_ n5_ n6_ n7_ n8_ n9_ n10_ n11_ n12_ n13_ n14_ n15_
      clear hb hbox hg
      refine hK.out _ _ ⟨(blk_cell BK493.out 0).trans rfl, (blk_cell BK493.out 1).trans rfl, (blk_cell BK493.out 2).trans rfl, (blk_cell BK492.out 0).trans rfl, (blk_cell BK492.out 1).trans rfl, (blk_cell BK492.out 2).trans rfl⟩ (fun hHeld => ?_)
      clear hK K
      refine norm_ (a' := ?_) ?_ ?_
      rotate_left
      ·show Act.put _ (some 5) _ = _
       exact pt_
      exact norm_ (by simp only [putAll, Act.put, List.setIfInBounds_toArray, List.set_cons_zero, List.set_cons_succ]) (hCont (.slice Ao66 t508.length co66, gb511) _ ⟨hHeld, (by (with_reducible repeat (first | apply Kd.V_alloc | apply Kd.V_drewN | apply Kd.V_drew)); exact Kd.V_mono HO0_1.out (fun _ hk => by first | exact ⟨hk.1.1.1.1.1, ⟨hk.1.2, ⟨hk.1.1.1.1.2, ⟨hk.1.1.1.2, ⟨hk.1.1.2, hk.2⟩⟩⟩⟩⟩ | simp [hk])), (by (with_reducible repeat (first | apply Kd.V_alloc | apply Kd.V_drewN | apply Kd.V_drew)); exact Kd.V_mono HO1_1.out (fun _ hk => by first | exact ⟨hk.1.1.1.1.1, ⟨hk.1.2, ⟨hk.1.1.1.1.2, ⟨hk.1.1.1.2, ⟨hk.1.1.2, hk.2⟩⟩⟩⟩⟩ | simp [hk])), (kr_ (Kd.R_mono HO510.out (fun _ hk => hk.1))), (kb_ BK492.out), (kb_ BK493.out), (kb_ BK494.out), (kb_ BK511.out), GW511.out, GE511.out, NB492_511.out, NB511_492.out, NB493_511.out, NB511_493.out, NB494_511.out, NB511_494.out, (bw_ HB.out)⟩)
     ·skip
      refine box_step ?hg (N := 5) ?hd (cs := #[.bool false, .slice none 0 0]) (t := 29) ?hr ?_; (case hd => rfl); (case hg => rfl); (case hr => first | (go_simp; done) | (go_simp; rfl))
      intro gb511 hg w65 hbox hb
      have n0_ := Aside0.mk (Kd.V_below (Kd.V_elderB (by (with_reducible repeat (first | apply Kd.V_alloc | apply Kd.V_drewN | apply Kd.V_drew)); exact HO0_1.out) gb511 (Nat.le_of_eq hg.symm)) hb)
      have n1_ := Aside0.mk (Kd.V_below (Kd.V_elderB (by (with_reducible repeat (first | apply Kd.V_alloc | apply Kd.V_drewN | apply Kd.V_drew)); exact HO1_1.out) gb511 (Nat.le_of_eq hg.symm)) hb)
      have n2_ := kq_ BK492 hb
      have n3_ := kq_ BK493 hb
      have n4_ := kq_ BK494 hb
      have n5_ := bq_ HB hb
      have n6_ := Aside0.mk (hbox)
      have n7_ := ge_ hg HB
      have n8_ := ge_ hg HB
      have n9_ := nb_ hg BK492
      have n10_ := nc_ hg BK492
      have n11_ := nb_ hg BK493
      have n12_ := nc_ hg BK493
      have n13_ := nb_ hg BK494
      have n14_ := nc_ hg BK494
      clear HO0_1
      clear HO1_1
      clear BK492
      clear BK493
      clear BK494
      clear HB
      have HO0_1 := n0_
      have HO1_1 := n1_
      have BK492 := n2_
      have BK493 := n3_
      have BK494 := n4_
      have HB := n5_
      have BK511 := n6_
      have GW511 := n7_
      have GE511 := n8_
      have NB492_511 := n9_
      have NB511_492 := n10_
      have NB493_511 := n11_
      have NB511_493 := n12_
      have NB494_511 := n13_
      have NB511_494 := n14_
      clear n0_ n1_ n2_ n3_ n4_ n5_ n6_ n7_ n8_ n9_ n10_ n11_ n12_ n13_ n14_
      clear hb hbox hg
      refine hK.out _ _ ⟨(blk_cell BK493.out 0).trans rfl, (blk_cell BK493.out 1).trans rfl, (blk_cell BK493.out 2).trans rfl, (blk_cell BK492.out 0).trans rfl, (blk_cell BK492.out 1).trans rfl, (blk_cell BK492.out 2).trans rfl⟩ (fun hHeld => ?_)
      clear hK K
      refine norm_ (a' := ?_) ?_ ?_
      rotate_left
      ·show Act.put _ (some 5) _ = _
       exact pt_
      refine one_ (i := 11) (N := some 39) #[true, true, true, true, true, true, true, true, true, true, true, true, false, true, false] rfl rfl (one_of HT_.out (by kernel_rfl)) (by decide) (fun K hK => ?_)
      refine gs_ Tryd.func38 #[.slice A1_1 l1_1.length c1_1, .int .i64 (wrap64 (a1_2 - a0_2))] ?_
      with_reducible refine (nat_Shl.calls k _ _ l1_1 (wrap64 (a1_2 - a0_2)) t508 _ ?side1 ?side2 A53.out).mono ?_
      (case side1 => exact kc_ (Kd.V_reads' HO1_1.out).2.2)
      (case side2 => exact (Kd.V_reads' HO1_1.out).2.1)
      rintro e w66 ⟨v509, rfl, ho0, hb⟩
      refine ⟨_, rfl, ?_⟩
      have n0_ := Aside0.mk (Kd.V_elder' (by (with_reducible repeat (first | apply Kd.V_alloc | apply Kd.V_drewN | apply Kd.V_drew)); exact HO0_1.out) (Kd.R_base ho0) hb)
      have n1_ := Aside0.mk (Kd.V_elder' (by (with_reducible repeat (first | apply Kd.V_alloc | apply Kd.V_drewN | apply Kd.V_drew)); exact HO1_1.out) (Kd.R_base ho0) hb)
      have n2_ := Aside0.mk (Kd.R_lower (Kd.R_newM (M := fun k_ => (w.heap.size ≤ k_)) ho0 (below_size (bw_ HB.out)) (fun k_ h_ => h_)) (below_size (bw_ HB.out)))
      have n3_ := kq_ BK492 hb
      have n4_ := kq_ BK493 hb
      have n5_ := kq_ BK494 hb
      have n6_ := kq_ BK511 hb
      have n7_ := bq_ HB hb
      clear HO0_1
      clear HO1_1
      clear BK492
      clear BK493
      clear BK494
      clear BK511
      clear HB
      have HO0_1 := n0_
      have HO1_1 := n1_
      have HO510 := n2_
      have BK492 := n3_
      have BK493 := n4_
      have BK494 := n5_
      have BK511 := n6_
      have HB := n7_
      clear n0_ n1_ n2_ n3_ n4_ n5_ n6_ n7_
      (try clear hb)
      (try clear hb2)
      (try clear hk)
      (try clear hi)
      (try clear ho0)
      obtain ⟨Ao67, co67, eo67⟩ := Kd.R_slice HO510.out
      (first | subst eo67 | (injection eo67 with f1_ f2_ f3_; have f4_ := f1_.symm; have f5_ := f3_.symm; clear f1_ f2_ f3_; subst f4_; subst f5_))
      refine hK.out _ _ ⟨(blk_cell BK493.out 0).trans rfl, (blk_cell BK493.out 1).trans rfl, (blk_cell BK493.out 2).trans rfl, (blk_cell BK492.out 0).trans rfl, (blk_cell BK492.out 1).trans rfl, (blk_cell BK492.out 2).trans rfl⟩ (fun hHeld => ?_)
      clear hK K
      refine norm_ (a' := ?_) ?_ ?_
      rotate_left
      ·show Act.put _ (some 39) _ = _
       exact pt_
      refine pure_ (i := 12) (N := some 40) (v := ?_) (a' := ?_) #[true, true, true, true, true, true, true, true, true, true, true, true, true, true, false] rfl rfl (any_of HT_.out (by kernel_rfl)) (fun _ _ _ h => h) (Or.inl ⟨by rfl, ?_⟩) ?_ ?_
      rotate_left
      ·intro w'
       go_simp
       with_reducible rfl
      rotate_left
      ·exact pt_
      exact norm_ (by simp only [putAll, Act.put, List.setIfInBounds_toArray, List.set_cons_zero, List.set_cons_succ]) (hCont (.slice Ao67 t508.length co67, gb511) _ ⟨hHeld, (by (with_reducible repeat (first | apply Kd.V_alloc | apply Kd.V_drewN | apply Kd.V_drew)); exact Kd.V_mono HO0_1.out (fun _ hk => by first | exact ⟨hk.1.1.1.1.1, ⟨hk.2, ⟨hk.1.1.1.1.2, ⟨hk.1.1.1.2, ⟨hk.1.1.2, hk.1.2⟩⟩⟩⟩⟩ | simp [hk])), (by (with_reducible repeat (first | apply Kd.V_alloc | apply Kd.V_drewN | apply Kd.V_drew)); exact Kd.V_mono HO1_1.out (fun _ hk => by first | exact ⟨hk.1.1.1.1.1, ⟨hk.2, ⟨hk.1.1.1.1.2, ⟨hk.1.1.1.2, ⟨hk.1.1.2, hk.1.2⟩⟩⟩⟩⟩ | simp [hk])), (kr_ (Kd.R_mono HO510.out (fun _ hk => hk.1))), (kb_ BK492.out), (kb_ BK493.out), (kb_ BK494.out), (kb_ BK511.out), GW511.out, GE511.out, NB492_511.out, NB511_492.out, NB493_511.out, NB511_493.out, NB494_511.out, NB511_494.out, (bw_ HB.out)⟩)
    rintro ⟨v509, gb511⟩ w68 ⟨hS_, h0_, h1_, h2_, h3_, h4_, h5_, h6_, h7_, h8_, h9_, h10_, h11_, h12_, h13_, h14_, h15_⟩
    have HO510 := Aside0.mk h2_
    have BK511 := Aside0.mk h6_
    have GW511 := Aside0.mk h7_
    have GE511 := Aside0.mk h8_
    have NB492_511 := Aside0.mk h9_
    have NB511_492 := Aside0.mk h10_
    have NB493_511 := Aside0.mk h11_
    have NB511_493 := Aside0.mk h12_
    have NB494_511 := Aside0.mk h13_
    have NB511_494 := Aside0.mk h14_
    replace HO0_1 := Aside0.mk h0_
    replace HO1_1 := Aside0.mk h1_
    replace BK492 := Aside0.mk h3_
    replace BK493 := Aside0.mk h4_
    replace BK494 := Aside0.mk h5_
    replace HB := Aside0.mk h15_
    clear h0_ h1_ h2_ h3_ h4_ h5_ h6_ h7_ h8_ h9_ h10_ h11_ h12_ h13_ h14_ h15_
    have hHeld : w68.cell? ⟨gb493, 0, none⟩ = some (.bool a1_0) ∧ w68.cell? ⟨gb493, 1, none⟩ = some (.slice A1_1 l1_1.length c1_1) ∧ w68.cell? ⟨gb493, 2, none⟩ = some (.int .i64 a1_2) ∧ w68.cell? ⟨gb492, 0, none⟩ = some (.bool a0_0) ∧ w68.cell? ⟨gb492, 1, none⟩ = some (.slice A0_1 l0_1.length c0_1) ∧ w68.cell? ⟨gb492, 2, none⟩ = some (.int .i64 a0_2) := hS_
    obtain ⟨Ao69, co69, eo69⟩ := Kd.R_slice HO510.out
    (first | subst eo69 | (injection eo69 with f1_ f2_ f3_; have f4_ := f1_.symm; have f5_ := f3_.symm; clear f1_ f2_ f3_; subst f4_; subst f5_))
    refine norm_ (a' := ?_) ?_ ?_
    rotate_left
    ·simp only [putAll, Act.put, List.setIfInBounds_toArray, List.set_cons_zero, List.set_cons_succ]
     rfl
    refine one_ (i := 14) (N := none) #[true, true, true, true, true, true, true, true, true, true, true, true, true, true, true] rfl rfl (one_of HT_.out (by kernel_rfl)) (by decide) (fun K hK => ?_)
    have hs70 : w68.cell? ⟨gb511, 0, none⟩ = some (.bool false) := (blk_cell BK511.out 0).trans rfl
    have hfs70 := fz_ BK511 0
    have hns70_0 := NB492_511.out
    have hns70_1 := NB493_511.out
    have hns70_2 := NB494_511.out
    have hms70_0 := NB511_492.out
    have hms70_1 := NB511_493.out
    have hms70_2 := NB511_494.out
    have hs71 : w68.cell? ⟨gb511, 1, none⟩ = some (.slice none 0 0) := (blk_cell BK511.out 1).trans rfl
    have hfs71 := fz_ BK511 1
    have hns71_0 := NB492_511.out
    have hns71_1 := NB493_511.out
    have hns71_2 := NB494_511.out
    have hms71_0 := NB511_492.out
    have hms71_1 := NB511_493.out
    have hms71_2 := NB511_494.out
    refine skip_ (w1 := ?_) (by rfl) rfl ?_ ?_
    rotate_left
    ·go_simp
     rfl
    refine hK.out _ _ ⟨((cell_far (p := ⟨gb511, _, none⟩) NB493_511.out _).trans (((cell_far (p := ⟨gb511, _, none⟩) NB493_511.out _).trans (hHeld.1)))), ((cell_far (p := ⟨gb511, _, none⟩) NB493_511.out _).trans (((cell_far (p := ⟨gb511, _, none⟩) NB493_511.out _).trans (hHeld.2.1)))), ((cell_far (p := ⟨gb511, _, none⟩) NB493_511.out _).trans (((cell_far (p := ⟨gb511, _, none⟩) NB493_511.out _).trans (hHeld.2.2.1)))), ((cell_far (p := ⟨gb511, _, none⟩) NB492_511.out _).trans (((cell_far (p := ⟨gb511, _, none⟩) NB492_511.out _).trans (hHeld.2.2.2.1)))), ((cell_far (p := ⟨gb511, _, none⟩) NB492_511.out _).trans (((cell_far (p := ⟨gb511, _, none⟩) NB492_511.out _).trans (hHeld.2.2.2.2.1)))), ((cell_far (p := ⟨gb511, _, none⟩) NB492_511.out _).trans (((cell_far (p := ⟨gb511, _, none⟩) NB492_511.out _).trans (hHeld.2.2.2.2.2))))⟩ (fun hHeld => ?_)
    clear hK K
    refine done_ (done_of HT_.out (by kernel_rfl)) ?_
    try go_wp2
    have n0_ : Aside0 (Kd.V (Kd.int .u32) 44 ((w68.setCell ⟨gb511, 0, none⟩ (.bool a1_0)).setCell ⟨gb511, 1, none⟩ (.slice Ao69 t508.length co69)) w.heap.size (fun k_ => ((P0_1_ k_ ∨ P1_1_ k_) ∨ w.heap.size ≤ k_) ∧ some k_ ≠ (.slice Ao69 t508.length co69 : Value).ownBlock ∧ k_ ≠ gb492 ∧ k_ ≠ gb493 ∧ k_ ≠ gb494 ∧ k_ ≠ gb511) (.slice A0_1 l0_1.length c0_1) l0_1) := ⟨by (with_reducible repeat (first | apply Kd.V_alloc | apply Kd.V_drewN | apply Kd.V_drew)); exact Kd.V_mono (Kd.V_far (p := ⟨gb511, 1, none⟩) (Kd.V_far (p := ⟨gb511, 0, none⟩) (Kd.V_mono HO0_1.out (fun k_ hk => (⟨hk, hk.2.2.2.2.2⟩ : _ ∧ k_ ≠ gb511))) (fun _ hk => hk.2) (.bool a1_0)) (fun _ hk => hk.2) (.slice Ao69 t508.length co69)) (fun _ hk => by first | exact ⟨hk.1.1, ⟨hk.1.2.1, ⟨hk.1.2.2.1, ⟨hk.1.2.2.2.1, ⟨hk.1.2.2.2.2.1, hk.1.2.2.2.2.2⟩⟩⟩⟩⟩ | simp [hk])⟩
    have n1_ : Aside0 (Kd.V (Kd.int .u32) 44 ((w68.setCell ⟨gb511, 0, none⟩ (.bool a1_0)).setCell ⟨gb511, 1, none⟩ (.slice Ao69 t508.length co69)) w.heap.size (fun k_ => ((P0_1_ k_ ∨ P1_1_ k_) ∨ w.heap.size ≤ k_) ∧ some k_ ≠ (.slice Ao69 t508.length co69 : Value).ownBlock ∧ k_ ≠ gb492 ∧ k_ ≠ gb493 ∧ k_ ≠ gb494 ∧ k_ ≠ gb511) (.slice A1_1 l1_1.length c1_1) l1_1) := ⟨by (with_reducible repeat (first | apply Kd.V_alloc | apply Kd.V_drewN | apply Kd.V_drew)); exact Kd.V_mono (Kd.V_far (p := ⟨gb511, 1, none⟩) (Kd.V_far (p := ⟨gb511, 0, none⟩) (Kd.V_mono HO1_1.out (fun k_ hk => (⟨hk, hk.2.2.2.2.2⟩ : _ ∧ k_ ≠ gb511))) (fun _ hk => hk.2) (.bool a1_0)) (fun _ hk => hk.2) (.slice Ao69 t508.length co69)) (fun _ hk => by first | exact ⟨hk.1.1, ⟨hk.1.2.1, ⟨hk.1.2.2.1, ⟨hk.1.2.2.2.1, ⟨hk.1.2.2.2.2.1, hk.1.2.2.2.2.2⟩⟩⟩⟩⟩ | simp [hk])⟩
    have n2_ : Aside0 (Kd.R (Kd.int .u32) 44 ((w68.setCell ⟨gb511, 0, none⟩ (.bool a1_0)).setCell ⟨gb511, 1, none⟩ (.slice Ao69 t508.length co69)) w.heap.size (fun k_ => (w.heap.size ≤ k_)) (.slice Ao69 t508.length co69) t508) := ⟨by (with_reducible repeat (first | apply Kd.R_alloc | apply Kd.R_drewN | apply Kd.R_drew)); exact Kd.R_mono (Kd.R_far (p := ⟨gb511, 1, none⟩) (Kd.R_far (p := ⟨gb511, 0, none⟩) (Kd.R_types HO510.out BK511.out (by decide)) (fun _ hk => hk.2) (.bool a1_0)) (fun _ hk => hk.2) (.slice Ao69 t508.length co69)) (fun _ hk => hk.1)⟩
    have n3_ : Aside0 (((w68.setCell ⟨gb511, 0, none⟩ (.bool a1_0)).setCell ⟨gb511, 1, none⟩ (.slice Ao69 t508.length co69)).heap[gb492]? = some (.cells #[.bool a0_0, .slice A0_1 l0_1.length c0_1, .int .i64 a0_2] 31 (0, 0))) := ⟨by refine kb_ ?_; refine bf_ NB492_511 ?_; refine bf_ NB492_511 ?_; exact BK492.out⟩
    have n4_ : Aside0 (((w68.setCell ⟨gb511, 0, none⟩ (.bool a1_0)).setCell ⟨gb511, 1, none⟩ (.slice Ao69 t508.length co69)).heap[gb493]? = some (.cells #[.bool a1_0, .slice A1_1 l1_1.length c1_1, .int .i64 a1_2] 31 (0, 0))) := ⟨by refine kb_ ?_; refine bf_ NB493_511 ?_; refine bf_ NB493_511 ?_; exact BK493.out⟩
    have n5_ : Aside0 (((w68.setCell ⟨gb511, 0, none⟩ (.bool a1_0)).setCell ⟨gb511, 1, none⟩ (.slice Ao69 t508.length co69)).heap[gb494]? = some (.cells #[.bool false, .slice none 0 0, .int .i64 0] 31 (0, 0))) := ⟨by refine kb_ ?_; refine bf_ NB494_511 ?_; refine bf_ NB494_511 ?_; exact BK494.out⟩
    have n6_ : Aside0 (((w68.setCell ⟨gb511, 0, none⟩ (.bool a1_0)).setCell ⟨gb511, 1, none⟩ (.slice Ao69 t508.length co69)).heap[gb511]? = some (.cells #[.bool a1_0, .slice Ao69 t508.length co69] 29 (0, 0))) := ⟨by refine kb_ ?_; refine bp_ #[.bool a1_0, .slice none 0 0] 1 ?_; refine bp_ #[.bool false, .slice none 0 0] 0 ?_; exact BK511.out⟩
    have n7_ : Aside0 (Below w.heap.size w ((w68.setCell ⟨gb511, 0, none⟩ (.bool a1_0)).setCell ⟨gb511, 1, none⟩ (.slice Ao69 t508.length co69))) := ⟨bw_ HB.out⟩
    (try clear HO0_1)
    (try clear HO1_1)
    (try clear HO510)
    (try clear BK492)
    (try clear BK493)
    (try clear BK494)
    (try clear BK511)
    (try clear HB)
    generalize ((w68.setCell ⟨gb511, 0, none⟩ (.bool a1_0)).setCell ⟨gb511, 1, none⟩ (.slice Ao69 t508.length co69)) = w72 at n0_ n1_ n2_ n3_ n4_ n5_ n6_ n7_ ⊢
    have HO0_1 := n0_
    have HO1_1 := n1_
    have HO510 := n2_
    have BK492 := n3_
    have BK493 := n4_
    have BK494 := n5_
    have BK511 := n6_
    have HB := n7_
    clear n0_ n1_ n2_ n3_ n4_ n5_ n6_ n7_
    replace HO0_1 := Aside0.mk (Kd.V_drew HO0_1.out)
    replace HO1_1 := Aside0.mk (Kd.V_drew HO1_1.out)
    replace HO510 := Aside0.mk (Kd.R_drew HO510.out)
    replace BK492 := Aside0.mk (blk_drew BK492.out)
    replace BK493 := Aside0.mk (blk_drew BK493.out)
    replace BK494 := Aside0.mk (blk_drew BK494.out)
    replace BK511 := Aside0.mk (blk_drew BK511.out)
    replace HB := Aside0.mk (below_drew1 HB.out)
    refine start_ (n := 8) (S := fun w' => w'.cell? ⟨gb492, 0, none⟩ = some (.bool a0_0) ∧ w'.cell? ⟨gb492, 1, none⟩ = some (.slice A0_1 l0_1.length c0_1) ∧ w'.cell? ⟨gb492, 2, none⟩ = some (.int .i64 a0_2) ∧ w'.cell? ⟨gb511, 0, none⟩ = some (.bool a1_0) ∧ w'.cell? ⟨gb511, 1, none⟩ = some (.slice Ao69 t508.length co69)) (ds := []) #[false, false, false, false, false, false, false, false] (by kernel_rfl) rfl rfl ⟨(blk_cell BK492.out 0).trans rfl, (blk_cell BK492.out 1).trans rfl, (blk_cell BK492.out 2).trans rfl, (blk_cell BK511.out 0).trans rfl, (blk_cell BK511.out 1).trans rfl⟩ (fun hHeld => ?_); refine with_tabW dy_add.tab8 dy_add.bits8 (fun HT_ HW_ => ?_)
    generalize w72.drew = w73 at HO0_1 HO1_1 HO510 BK492 BK493 BK494 BK511 HB hHeld ⊢
    refine pure_ (i := 0) (N := some 41) (v := ?_) (a' := ?_) #[true, false, false, false, false, false, false, false] rfl rfl (any_of HT_.out (by kernel_rfl)) (fun _ _ _ h => h) (Or.inl ⟨by rfl, ?_⟩) ?_ ?_
    rotate_left
    ·intro w'
     go_simp
     with_reducible rfl
    rotate_left
    ·exact pt_
    refine pure_ (i := 4) (N := some 45) (v := ?_) (a' := ?_) #[true, false, false, false, true, false, false, false] rfl rfl (any_of HT_.out (by kernel_rfl)) (fun _ _ _ h => h) (Or.inl ⟨by rfl, ?_⟩) ?_ ?_
    rotate_left
    ·intro w'
     go_simp
     with_reducible rfl
    rotate_left
    ·exact pt_
    refine take_ (i := 1) (N := some 42) (v := ?_) (a' := ?_) #[true, true, false, false, true, false, false, false] rfl rfl (take_ofW HT_.out HW_.out (by kernel_rfl)) (fun _ _ _ h => h) (Or.inl ⟨by rfl, ?_⟩) hHeld ?_ ?_
    rotate_left
    ·rintro w' ⟨s0, s1, s2, s3, s4⟩
     go_simp
     with_reducible rfl
    rotate_left
    ·exact pt_
    refine take_ (i := 2) (N := some 43) (v := ?_) (a' := ?_) #[true, true, true, false, true, false, false, false] rfl rfl (take_ofW HT_.out HW_.out (by kernel_rfl)) (fun _ _ _ h => h) (Or.inl ⟨by rfl, ?_⟩) hHeld ?_ ?_
    rotate_left
    ·rintro w' ⟨s0, s1, s2, s3, s4⟩
     go_simp
     with_reducible rfl
    rotate_left
    ·exact pt_
    refine take_ (i := 5) (N := some 46) (v := ?_) (a' := ?_) #[true, true, true, false, true, true, false, false] rfl rfl (take_ofW HT_.out HW_.out (by kernel_rfl)) (fun _ _ _ h => h) (Or.inl ⟨by rfl, ?_⟩) hHeld ?_ ?_
    rotate_left
    ·rintro w' ⟨s0, s1, s2, s3, s4⟩
     go_simp
     with_reducible rfl
    rotate_left
    ·exact pt_
    refine one_ (i := 3) (N := some 44) #[true, true, true, true, true, true, false, false] rfl rfl (one_of HT_.out (by kernel_rfl)) (by decide) (fun K hK => ?_)
    refine gs_ Tryd.func39 #[.agg #[.bool a0_0, .slice A0_1 l0_1.length c0_1], .agg #[.bool a1_0, .slice Ao69 t508.length co69]] ?_
    with_reducible refine (whole_Add.calls k a0_0 _ _ l0_1 a1_0 _ _ t508 t512 t513 _ ?side1 ?side2 ?side3 ?side4 A54.out).mono ?_
    (case side1 => exact kc_ (Kd.V_reads' HO0_1.out).2.2)
    (case side2 => exact (Kd.V_reads' HO0_1.out).2.1)
    (case side3 => exact kc_ (Kd.R_reads' HO510.out).2.2)
    (case side4 => exact (Kd.R_reads' HO510.out).2.1)
    rintro e w74 ⟨v514, rfl, ho0, hb⟩
    refine ⟨_, rfl, ?_⟩
    have n0_ := Aside0.mk (Kd.V_elder' (by (with_reducible repeat (first | apply Kd.V_alloc | apply Kd.V_drewN | apply Kd.V_drew)); exact HO0_1.out) (Kd.R_base ho0) hb)
    have n1_ := Aside0.mk (Kd.V_elder' (by (with_reducible repeat (first | apply Kd.V_alloc | apply Kd.V_drewN | apply Kd.V_drew)); exact HO1_1.out) (Kd.R_base ho0) hb)
    have n2_ := Aside0.mk (Kd.R_elder' (kr_ HO510.out) (Kd.R_base ho0) hb)
    have n3_ := Aside0.mk (Kd.R_lower (Kd.R_new' (Kd.R_newM (M := fun k_ => (w.heap.size ≤ k_)) ho0 (below_size (bw_ HB.out)) (fun k_ h_ => h_)) (Kd.R_lt (kr_ HO510.out))) (below_size (bw_ HB.out)))
    have n4_ := kq_ BK492 hb
    have n5_ := kq_ BK493 hb
    have n6_ := kq_ BK494 hb
    have n7_ := kq_ BK511 hb
    have n8_ := bq_ HB hb
    clear HO0_1
    clear HO1_1
    clear HO510
    clear BK492
    clear BK493
    clear BK494
    clear BK511
    clear HB
    have HO0_1 := n0_
    have HO1_1 := n1_
    have HO510 := n2_
    have HO515 := n3_
    have BK492 := n4_
    have BK493 := n5_
    have BK494 := n6_
    have BK511 := n7_
    have HB := n8_
    clear n0_ n1_ n2_ n3_ n4_ n5_ n6_ n7_ n8_
    (try clear hb)
    (try clear hb2)
    (try clear hk)
    (try clear hi)
    (try clear ho0)
    obtain ⟨Ao75, co75, eo75⟩ := Kd.R_slice HO515.out
    (first | subst eo75 | (injection eo75 with f1_ f2_ f3_; have f4_ := f1_.symm; have f5_ := f3_.symm; clear f1_ f2_ f3_; subst f4_; subst f5_))
    refine hK.out _ _ ⟨(blk_cell BK492.out 0).trans rfl, (blk_cell BK492.out 1).trans rfl, (blk_cell BK492.out 2).trans rfl, (blk_cell BK511.out 0).trans rfl, (blk_cell BK511.out 1).trans rfl⟩ (fun hHeld => ?_)
    clear hK K
    refine norm_ (a' := ?_) ?_ ?_
    rotate_left
    ·show Act.put _ (some 44) _ = _
     exact pt_
    refine one_ (i := 6) (N := some 47) #[true, true, true, true, true, true, true, false] rfl rfl (one_of HT_.out (by kernel_rfl)) (by decide) (fun K hK => ?_)
    refine gs_ Tryd.func16 #[.agg #[.bool t512, .slice Ao75 t513.length co75], .int .i64 a0_2] ?_
    with_reducible refine (dy_Make.calls k t512 _ _ t513 a0_2 t516 t517 t520 _ ?side1 ?side2 A55.out ?sidet).mono ?_
    (case sidet => exact Kd.C_below HTAB.out (bw_ HB.out))
    (case side1 => exact kc_ (Kd.R_reads' HO515.out).2.2)
    (case side2 => exact (Kd.R_reads' HO515.out).2.1)
    rintro e w76 ⟨v518, rfl, ho0, hb⟩
    refine ⟨_, rfl, ?_⟩
    have n0_ := Aside0.mk (Kd.V_elder' (by (with_reducible repeat (first | apply Kd.V_alloc | apply Kd.V_drewN | apply Kd.V_drew)); exact HO0_1.out) (Kd.R_base ho0) hb)
    have n1_ := Aside0.mk (Kd.V_elder' (by (with_reducible repeat (first | apply Kd.V_alloc | apply Kd.V_drewN | apply Kd.V_drew)); exact HO1_1.out) (Kd.R_base ho0) hb)
    have n2_ := Aside0.mk (Kd.R_elder' (kr_ HO510.out) (Kd.R_base ho0) hb)
    have n3_ := Aside0.mk (Kd.R_elder' (kr_ HO515.out) (Kd.R_base ho0) hb)
    have n4_ := Aside0.mk (Kd.R_lower (Kd.R_new' (Kd.R_new' (Kd.R_newM (M := fun k_ => (w.heap.size ≤ k_)) ho0 (below_size (bw_ HB.out)) (fun k_ h_ => h_)) (Kd.R_lt (kr_ HO510.out))) (Kd.R_lt (kr_ HO515.out))) (below_size (bw_ HB.out)))
    have n5_ := kq_ BK492 hb
    have n6_ := kq_ BK493 hb
    have n7_ := kq_ BK494 hb
    have n8_ := kq_ BK511 hb
    have n9_ := bq_ HB hb
    clear HO0_1
    clear HO1_1
    clear HO510
    clear HO515
    clear BK492
    clear BK493
    clear BK494
    clear BK511
    clear HB
    have HO0_1 := n0_
    have HO1_1 := n1_
    have HO510 := n2_
    have HO515 := n3_
    have HO519 := n4_
    have BK492 := n5_
    have BK493 := n6_
    have BK494 := n7_
    have BK511 := n8_
    have HB := n9_
    clear n0_ n1_ n2_ n3_ n4_ n5_ n6_ n7_ n8_ n9_
    (try clear hb)
    (try clear hb2)
    (try clear hk)
    (try clear hi)
    (try clear ho0)
    obtain ⟨Ao78, co78, eo78⟩ := Kd.R_slice HO519.out
    (first | subst eo78 | (injection eo78 with f1_ f2_ f3_; have f4_ := f1_.symm; have f5_ := f3_.symm; clear f1_ f2_ f3_; subst f4_; subst f5_))
    refine hK.out _ _ ⟨(blk_cell BK492.out 0).trans rfl, (blk_cell BK492.out 1).trans rfl, (blk_cell BK492.out 2).trans rfl, (blk_cell BK511.out 0).trans rfl, (blk_cell BK511.out 1).trans rfl⟩ (fun hHeld => ?_)
    clear hK K
    refine norm_ (a' := ?_) ?_ ?_
    rotate_left
    ·show Act.put _ (some 47) _ = _
     exact pt_
    refine one_ (i := 7) (N := none) #[true, true, true, true, true, true, true, true] rfl rfl (one_of HT_.out (by kernel_rfl)) (by decide) (fun K hK => ?_)
    have hs77 : w76.cell? ⟨gb494, 0, none⟩ = some (.bool false) := (blk_cell BK494.out 0).trans rfl
    have hfs77 := fz_ BK494 0
    have hns77_0 := NB492_494.out
    have hns77_1 := NB493_494.out
    have hns77_3 := NB511_494.out
    have hms77_0 := NB494_492.out
    have hms77_1 := NB494_493.out
    have hms77_3 := NB494_511.out
    have hs79 : w76.cell? ⟨gb494, 1, none⟩ = some (.slice none 0 0) := (blk_cell BK494.out 1).trans rfl
    have hfs79 := fz_ BK494 1
    have hns79_0 := NB492_494.out
    have hns79_1 := NB493_494.out
    have hns79_3 := NB511_494.out
    have hms79_0 := NB494_492.out
    have hms79_1 := NB494_493.out
    have hms79_3 := NB494_511.out
    have hs80 : w76.cell? ⟨gb494, 2, none⟩ = some (.int .i64 0) := (blk_cell BK494.out 2).trans rfl
    have hfs80 := fz_ BK494 2
    have hns80_0 := NB492_494.out
    have hns80_1 := NB493_494.out
    have hns80_3 := NB511_494.out
    have hms80_0 := NB494_492.out
    have hms80_1 := NB494_493.out
    have hms80_3 := NB494_511.out
    refine skip_ (w1 := ?_) (by rfl) rfl ?_ ?_
    rotate_left
    ·go_simp
     rfl
    refine hK.out _ _ ⟨((cell_far (p := ⟨gb494, _, none⟩) NB492_494.out _).trans (((cell_far (p := ⟨gb494, _, none⟩) NB492_494.out _).trans (((cell_far (p := ⟨gb494, _, none⟩) NB492_494.out _).trans (hHeld.1)))))), ((cell_far (p := ⟨gb494, _, none⟩) NB492_494.out _).trans (((cell_far (p := ⟨gb494, _, none⟩) NB492_494.out _).trans (((cell_far (p := ⟨gb494, _, none⟩) NB492_494.out _).trans (hHeld.2.1)))))), ((cell_far (p := ⟨gb494, _, none⟩) NB492_494.out _).trans (((cell_far (p := ⟨gb494, _, none⟩) NB492_494.out _).trans (((cell_far (p := ⟨gb494, _, none⟩) NB492_494.out _).trans (hHeld.2.2.1)))))), ((cell_far (p := ⟨gb494, _, none⟩) NB511_494.out _).trans (((cell_far (p := ⟨gb494, _, none⟩) NB511_494.out _).trans (((cell_far (p := ⟨gb494, _, none⟩) NB511_494.out _).trans (hHeld.2.2.2.1)))))), ((cell_far (p := ⟨gb494, _, none⟩) NB511_494.out _).trans (((cell_far (p := ⟨gb494, _, none⟩) NB511_494.out _).trans (((cell_far (p := ⟨gb494, _, none⟩) NB511_494.out _).trans (hHeld.2.2.2.2))))))⟩ (fun hHeld => ?_)
    clear hK K
    refine done_ (done_of HT_.out (by kernel_rfl)) ?_
    try go_wp2
    refine bodyPost_ret (results_cell_row rfl _ _ gb494 31 #[.bool t516, .slice Ao78 t517.length co78, .int .i64 t520] (0, 0) _ rfl (by refine kb_ ?_; refine bp_ #[.bool t516, .slice Ao78 t517.length co78, .int .i64 0] 2 ?_; refine bp_ #[.bool t516, .slice none 0 0, .int .i64 0] 1 ?_; refine bp_ #[.bool false, .slice none 0 0, .int .i64 0] 0 ?_; exact BK494.out) Tryd.underlying31 rfl (by kernel_rfl)) rfl ?_
    exact ⟨_, rf_, Kd.V_mono (Kd.R_V (kr_ (Kd.R_mono (Kd.R_far (p := ⟨gb494, 2, none⟩) (Kd.R_far (p := ⟨gb494, 1, none⟩) (Kd.R_far (p := ⟨gb494, 0, none⟩) (Kd.R_types HO519.out BK494.out (by decide)) (fun _ hk => hk.2) (.bool t516)) (fun _ hk => hk.2) (.slice Ao78 t517.length co78)) (fun _ hk => hk.2) (.int .i64 t520)) (fun _ hk => hk.1.1.1.1)))) (fun k_ hk => by first | exact ⟨(.inr (hk.1)), hk.2⟩ | exact (.inr (hk))), bw_ HB.out⟩

end Go.Proofs.YthlhogcnfaiphaaDoor.PA
