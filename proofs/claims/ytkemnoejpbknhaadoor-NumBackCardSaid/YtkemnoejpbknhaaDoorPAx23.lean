-- Laid by this work's own program; Lean checks it.
import Derived.Test.YtkemnoejpbknhaaDoorPAx0
import Derived.Test.YtkemnoejpbknhaaDoorPAx2
import Derived.Test.YtkemnoejpbknhaaDoorPAx3
import Derived.Test.YtkemnoejpbknhaaDoorPAx4
import Derived.Test.YtkemnoejpbknhaaDoorPAx20
import Derived.Test.YtkemnoejpbknhaaDoorPAx22
namespace Go.Proofs.YtkemnoejpbknhaaDoor.PA
open Go.RowKit Go.Proofs.YtkemnoejpbknhaaDoorW.PrintWords Go.Proofs.YtkemnoejpbknhaaDoorW.PrintLast Go.Proofs.YtkemnoejpbknhaaDoorW.PrintMore
attribute [local go_sem] max2_int min2_int max_two min_two max_three min_three max_four min_four   -- for this text's walks alone
set_option linter.unusedVariables false
set_option linter.unusedSimpArgs false

attribute [local go_sem ↓ high] isSome_set_
/-! ### dy_own: function 88 -/
set_option maxHeartbeats 8000000 in
set_option maxRecDepth 100000 in
theorem dy_own.calls (k : Nat) (a0_0 : Bool) (A0_1 : Option Addr) (c0_1 : Nat) (l0_1 : List Int) (a0_2 : Int) (r1 : Bool) (r2 : List Int) (r3 : Int) (w : World) (hr0_1 : Kd.C (Kd.int .u32) w A0_1 l0_1.length l0_1) (hc0_1 : l0_1.length ≤ c0_1) (h : dy_own.f k a0_0 l0_1 a0_2 = some (r1, r2, r3)) (htab_ : Kd.C (Kd.int .u8) w (some ⟨0, 0, none⟩) 32 tz32tab) :
  Calls Tryd.prog 88 #[.agg #[.bool a0_0, .slice A0_1 l0_1.length c0_1, .int .i64 a0_2]] w fun e w' => ∃ v1_ : Value, e = .returned (.agg #[.bool r1, v1_, .int .i64 r3]) ∧ Kd.R (Kd.int .u32) 53 w' w.heap.size (fun _ => True) v1_ r2 ∧ Below w.heap.size w w' := by
 have HTAB := Aside0.mk htab_
 clear htab_
 have hu26 := Tryd.underlying26
 have hu24 := Tryd.underlying24
 have HR0_1 := Aside0.mk hr0_1
 have HC0_1 := Aside0.mk hc0_1
 clear hr0_1 hc0_1
 have HB := Aside0.mk (Below.refl w.heap.size w)
 have H : ((dy_Make.f k a0_0 l0_1 a0_2).bind fun bt1055 => (some (bt1055.1, bt1055.2.1, bt1055.2.2))) = some (r1, r2, r3) := h
 clear h
 replace H := Option.bind_eq_some_iff.mp H
 obtain ⟨⟨t1055, t1056, t1059⟩, A20, H⟩ := H
 (try dsimp only at H)
 have A2 := Aside0.mk A20
 clear A20
 simp only [Option.some.injEq, Prod.mk.injEq] at H
 obtain ⟨rfl, rfl, rfl⟩ := H
 go_enter Tryd.func88, Tryd.ntmps88
 go_wp2_with (first | ((with_reducible refine gate_dst (N := 1) rfl ?_); refine bx_ 1 #[.bool a0_0, .slice A0_1 l0_1.length c0_1, .int .i64 a0_2] 26 ?_; intro gb1053 hg w3 hbox hb; have BK1053 := Aside0.mk (hbox); have GW1053 := ge_ hg HB; have GE1053 := ge_ hg HB; replace HB := bq_ HB hb; clear hb hbox hg) | ((with_reducible refine gate_dst (N := 2) rfl ?_); refine bx_ 2 #[.bool false, .slice none 0 0, .int .i64 0] 26 ?_; intro gb1054 hg w4 hbox hb; have BK1054 := Aside0.mk (hbox); have GW1054 := ge_ hg HB; have GE1054 := ge_ hg HB; have NB1053_1054 := nb_ hg BK1053; have NB1054_1053 := nc_ hg BK1053; replace BK1053 := kq_ BK1053 hb; replace HB := bq_ HB hb; clear hb hbox hg; have hnb5 := NB1053_1054.out; have hnc5 := NB1054_1053.out; obtain ⟨hcz6_0, hcz6_1, hcz6_2, hfz6_0, hfz6_1, hfz6_2⟩ := c3_ BK1053) | ((with_reducible refine gate_callee (f := 58) rfl ?_); refine gl_ (some 7) Tryd.func58 #[.agg #[.bool a0_0, .slice A0_1 l0_1.length c0_1], .int .i64 a0_2] ?_; (with_reducible refine (dy_Make.calls k a0_0 _ _ l0_1 a0_2 t1055 t1056 t1059 _ ?side1 ?side2 A2.out ?sidet).mono ?_); (case sidet => exact Kd.C_below HTAB.out (bw_ HB.out)); (case side1 => exact kc_ (Kd.C_below HR0_1.out HB.out)); (case side2 => exact HC0_1.out); rintro e w7 ⟨v1057, rfl, ho0, hb⟩; refine ⟨_, rfl, ?_⟩; have HO1058 := Aside0.mk (Kd.R_lower ho0 (below_size (bw_ HB.out))); replace BK1053 := kq_ BK1053 hb; replace BK1054 := kq_ BK1054 hb; replace HB := bq_ HB hb; (try clear hb); (try clear hb2); (try clear hk); (try clear hi); (try clear ho0); obtain ⟨hcz8_0, hcz8_1, hcz8_2, hfz8_0, hfz8_1, hfz8_2⟩ := c3_ BK1054; obtain ⟨Ao9, co9, eo9⟩ := Kd.R_slice HO1058.out; subst eo9))
 refine bodyPost_ret (results_cell_row rfl _ _ gb1054 26 #[.bool t1055, .slice Ao9 t1056.length co9, .int .i64 t1059] (0, 0) _ rfl (by refine kb_ ?_; refine bp_ #[.bool t1055, .slice Ao9 t1056.length co9, .int .i64 0] 2 ?_; refine bp_ #[.bool t1055, .slice none 0 0, .int .i64 0] 1 ?_; refine bp_ #[.bool false, .slice none 0 0, .int .i64 0] 0 ?_; exact BK1054.out) Tryd.underlying26 rfl (by kernel_rfl)) rfl ?_
 exact ⟨_, rf_, by (with_reducible repeat (first | apply Kd.R_alloc | apply Kd.R_drewN | apply Kd.R_drew)); exact Kd.R_mono (Kd.R_far (p := ⟨gb1054, 2, none⟩) (Kd.R_far (p := ⟨gb1054, 1, none⟩) (Kd.R_far (p := ⟨gb1054, 0, none⟩) (Kd.R_types HO1058.out BK1054.out (by decide)) (fun _ hk => hk.2) (.bool t1055)) (fun _ hk => hk.2) (.slice Ao9 t1056.length co9)) (fun _ hk => hk.2) (.int .i64 t1059)) (fun _ hk => trivial), bw_ HB.out⟩

/-! ### dy_Add: function 80 -/
set_option maxHeartbeats 8000000 in
set_option maxRecDepth 100000 in
theorem dy_Add.calls (k : Nat) (A0 : Option Addr) (c0 : Nat) (l0 : List (S26)) (r1 : Bool) (r2 : List Int) (r3 : Int) (w : World) (hr0 : Kd.C k26 w A0 l0.length l0) (hc0 : l0.length ≤ c0) (h : dy_Add.f k l0 = some (r1, r2, r3)) (htab_ : Kd.C (Kd.int .u8) w (some ⟨0, 0, none⟩) 32 tz32tab) :
  Calls Tryd.prog 80 #[.slice A0 l0.length c0] w fun e w' => ∃ v1_ : Value, e = .returned (.agg #[.bool r1, v1_, .int .i64 r3]) ∧ Kd.R (Kd.int .u32) 53 w' w.heap.size (fun _ => True) v1_ r2 ∧ Below w.heap.size w w' := by
 have HTAB := Aside0.mk htab_
 clear htab_
 have hu26 := Tryd.underlying26
 have HR0 := Aside0.mk hr0
 have HC0 := Aside0.mk hc0
 clear hr0 hc0
 have HB := Aside0.mk (Below.refl w.heap.size w)
 have H : (dy_Add.l0 k l0 (l0.length : Int) 0 false ([] : List Int) 0) = some (r1, r2, r3) := h
 clear h
 have H' := Aside0.mk H
 clear H
 go_enter Tryd.func80, Tryd.ntmps80
 go_wp2_with (first | ((with_reducible refine gate_dst (N := 2) rfl ?_); refine bx_ 2 #[.bool false, .slice none 0 0, .int .i64 0] 26 ?_; intro gb1060 hg w2 hbox hb; have BK1060 := Aside0.mk (hbox); have GW1060 := ge_ hg HB; have GE1060 := ge_ hg HB; replace HB := bq_ HB hb; clear hb hbox hg) | ((with_reducible refine gate_dst (N := 3) rfl ?_); refine bx_ 3 #[.bool false, .slice none 0 0, .int .i64 0] 26 ?_; intro gb1061 hg w3 hbox hb; have BK1061 := Aside0.mk (hbox); have GW1061 := ge_ hg HB; have GE1061 := ge_ hg HB; have NB1060_1061 := nb_ hg BK1060; have NB1061_1060 := nc_ hg BK1060; replace BK1060 := kq_ BK1060 hb; replace HB := bq_ HB hb; clear hb hbox hg))
 go_loopg [8] k (fun kq v8 w' => ∃ (x8_1 : Int) (x1062000_1 : Bool) (x1062001_1 : List Int) (x1062002_1 : Int) (u1062001 : Value), v8 = .int .i64 x8_1 ∧ Aside0 (dy_Add.l0 kq l0 (l0.length : Int) x8_1 x1062000_1 x1062001_1 x1062002_1 = some (r1, r2, r3)) ∧ Aside0 (kq ≤ k) ∧ Aside0 (Kd.V (Kd.int .u32) 53 w' w.heap.size (fun k_ => k_ ≠ gb1060 ∧ k_ ≠ gb1061) u1062001 x1062001_1) ∧ Aside0 (w'.heap[gb1060]? = some (.cells #[.bool false, (.slice none 0 0), .int .i64 0] 26 (0, 0))) ∧ Aside0 (w'.heap[gb1061]? = some (.cells #[.bool x1062000_1, u1062001, .int .i64 x1062002_1] 26 (0, 0))) ∧ Aside0 (Below w.heap.size w w'))
 case atStart => exact ⟨(0), (false), (([] : List Int)), (0), (.slice none 0 0), (by first | rfl | (simp; done) | (simp [*]; done)), H', ⟨Nat.le_refl _⟩, ⟨Kd.V_nil _ _ _ _ _⟩, ⟨kb_ BK1060.out⟩, ⟨kb_ BK1061.out⟩, ⟨bw_ HB.out⟩⟩
 case round =>
  clear H'
  try clear p2
  obtain ⟨x8_1, x1062000_1, x1062001_1, x1062002_1, u1062001, rfl, HA, HK1, HO_1062001, BK1060, BK1061, HB⟩ := hrel
  cases gk with
  | zero => exact absurd HA.out (by simp [dy_Add.l0])
  | succ k1 =>
   have H := HA.out
   clear HA
   simp only [dy_Add.l0] at H
   by_cases c4 : x8_1 < (l0.length : Int)
   ·rw [if_pos c4] at H
    have c4b0 : decide (x8_1 < (l0.length : Int)) = true := decide_eq_true c4
    clear c4
    by_cases c5 : 0 ≤ x8_1
    ·rw [if_pos c5] at H
     have c5b0 : decide (0 ≤ x8_1) = true := decide_eq_true c5
     clear c5
     by_cases c6 : x8_1 < (l0.length : Int)
     ·rw [if_pos c6] at H
      have c6b0 : decide (x8_1 < (l0.length : Int)) = true := decide_eq_true c6
      clear c6
      replace H := Option.bind_eq_some_iff.mp H
      obtain ⟨⟨t1064, t1065, t1068⟩, A70, H⟩ := H
      (try dsimp only at H)
      have A7 := Aside0.mk A70
      clear A70
      replace H := Option.bind_eq_some_iff.mp H
      obtain ⟨⟨t1069, t1070, t1073⟩, A80, H⟩ := H
      (try dsimp only at H)
      have A8 := Aside0.mk A80
      clear A80
      have H' := Aside0.mk H
      clear H
      have p1062 : 0 ≤ (x8_1 : Int) := of_decide_eq_true (by first | (with_reducible assumption) | assumption)
      have q1062 : x8_1 < (l0.length : Int) := of_decide_eq_true (by first | (with_reducible assumption) | assumption)
      obtain ⟨ad1062, A1062_1, c1062_1, e1062, hx1062_0, hx1062_1, hx1062_2, hl1062_1, hi1062_1⟩ := at_T26 HR0.out x8_1 p1062 q1062
      cases e1062
      replace hx1062_0 := (HB.out.cell (World.block_lt_of_cell? w _ hx1062_0)).trans hx1062_0
      replace hx1062_1 := (HB.out.cell (World.block_lt_of_cell? w _ hx1062_1)).trans hx1062_1
      replace hx1062_2 := (HB.out.cell (World.block_lt_of_cell? w _ hx1062_2)).trans hx1062_2
      have HR1062_1 := Aside0.mk hi1062_1
      have HC1062_1 := Aside0.mk hl1062_1
      clear hi1062_1 hl1062_1
      replace p1062 := eq_true p1062
      replace q1062 := eq_true q1062
      try go_wp2_with (first | ((with_reducible refine gate_dst (N := 5) rfl ?_); refine bx_ 5 #[.bool false, .slice none 0 0, .int .i64 0] 26 ?_; intro gb1063 hg w9 hbox hb; have n0_ := Aside0.mk (Kd.V_below (Kd.V_elderB (by (with_reducible repeat (first | apply Kd.V_alloc | apply Kd.V_drewN | apply Kd.V_drew)); exact HO_1062001.out) gb1063 (Nat.le_of_eq hg.symm)) hb); have n1_ := kq_ BK1060 hb; have n2_ := kq_ BK1061 hb; have n3_ := bq_ HB hb; have n4_ := Aside0.mk (hbox); have n5_ := ge_ hg HB; have n6_ := ge_ hg HB; have n7_ := nb_ hg BK1060; have n8_ := nc_ hg BK1060; have n9_ := nb_ hg BK1061; have n10_ := nc_ hg BK1061; clear HO_1062001; clear BK1060; clear BK1061; clear HB; have HO_1062001 := n0_; have BK1060 := n1_; have BK1061 := n2_; have HB := n3_; have BK1063 := n4_; have GW1063 := n5_; have GE1063 := n6_; have NB1060_1063 := n7_; have NB1063_1060 := n8_; have NB1061_1063 := n9_; have NB1063_1061 := n10_; clear n0_ n1_ n2_ n3_ n4_ n5_ n6_ n7_ n8_ n9_ n10_; clear hb hbox hg; have hnb10 := NB1063_1060.out; have hnc10 := NB1060_1063.out; have hnb11 := NB1063_1061.out; have hnc11 := NB1061_1063.out; obtain ⟨hcz12_0, hcz12_1, hcz12_2, hfz12_0, hfz12_1, hfz12_2⟩ := c3_ BK1063))
      have n0_ : Aside0 (Kd.V (Kd.int .u32) 53 (((w9.setCell ⟨gb1063, 0, none⟩ (.bool ((rd_T26 l0 x8_1).f0.f0))).setCell ⟨gb1063, 1, none⟩ (.slice A1062_1 ((rd_T26 l0 x8_1).f0.f1).length c1062_1)).setCell ⟨gb1063, 2, none⟩ (.int .i64 ((rd_T26 l0 x8_1).f1))) w.heap.size (fun k_ => k_ ≠ gb1060 ∧ k_ ≠ gb1061 ∧ k_ ≠ gb1063) u1062001 x1062001_1) := ⟨by (with_reducible repeat (first | apply Kd.V_alloc | apply Kd.V_drewN | apply Kd.V_drew)); exact Kd.V_mono (Kd.V_far (p := ⟨gb1063, 2, none⟩) (Kd.V_far (p := ⟨gb1063, 1, none⟩) (Kd.V_far (p := ⟨gb1063, 0, none⟩) (Kd.V_mono HO_1062001.out (fun k_ hk => (⟨hk, hk.2⟩ : _ ∧ k_ ≠ gb1063))) (fun _ hk => hk.2) (.bool ((rd_T26 l0 x8_1).f0.f0))) (fun _ hk => hk.2) (.slice A1062_1 ((rd_T26 l0 x8_1).f0.f1).length c1062_1)) (fun _ hk => hk.2) (.int .i64 ((rd_T26 l0 x8_1).f1))) (fun _ hk => by first | exact ⟨hk.1.1.1, ⟨hk.1.1.2, hk.1.2⟩⟩ | simp [hk])⟩
      have n1_ : Aside0 ((((w9.setCell ⟨gb1063, 0, none⟩ (.bool ((rd_T26 l0 x8_1).f0.f0))).setCell ⟨gb1063, 1, none⟩ (.slice A1062_1 ((rd_T26 l0 x8_1).f0.f1).length c1062_1)).setCell ⟨gb1063, 2, none⟩ (.int .i64 ((rd_T26 l0 x8_1).f1))).heap[gb1060]? = some (.cells #[.bool false, .slice none 0 0, .int .i64 0] 26 (0, 0))) := ⟨by refine kb_ ?_; refine bf_ NB1060_1063 ?_; refine bf_ NB1060_1063 ?_; refine bf_ NB1060_1063 ?_; exact BK1060.out⟩
      have n2_ : Aside0 ((((w9.setCell ⟨gb1063, 0, none⟩ (.bool ((rd_T26 l0 x8_1).f0.f0))).setCell ⟨gb1063, 1, none⟩ (.slice A1062_1 ((rd_T26 l0 x8_1).f0.f1).length c1062_1)).setCell ⟨gb1063, 2, none⟩ (.int .i64 ((rd_T26 l0 x8_1).f1))).heap[gb1061]? = some (.cells #[.bool x1062000_1, u1062001, .int .i64 x1062002_1] 26 (0, 0))) := ⟨by refine kb_ ?_; refine bf_ NB1061_1063 ?_; refine bf_ NB1061_1063 ?_; refine bf_ NB1061_1063 ?_; exact BK1061.out⟩
      have n3_ : Aside0 ((((w9.setCell ⟨gb1063, 0, none⟩ (.bool ((rd_T26 l0 x8_1).f0.f0))).setCell ⟨gb1063, 1, none⟩ (.slice A1062_1 ((rd_T26 l0 x8_1).f0.f1).length c1062_1)).setCell ⟨gb1063, 2, none⟩ (.int .i64 ((rd_T26 l0 x8_1).f1))).heap[gb1063]? = some (.cells #[.bool ((rd_T26 l0 x8_1).f0.f0), .slice A1062_1 ((rd_T26 l0 x8_1).f0.f1).length c1062_1, .int .i64 ((rd_T26 l0 x8_1).f1)] 26 (0, 0))) := ⟨by refine kb_ ?_; refine bp_ #[.bool ((rd_T26 l0 x8_1).f0.f0), .slice A1062_1 ((rd_T26 l0 x8_1).f0.f1).length c1062_1, .int .i64 0] 2 ?_; refine bp_ #[.bool ((rd_T26 l0 x8_1).f0.f0), .slice none 0 0, .int .i64 0] 1 ?_; refine bp_ #[.bool false, .slice none 0 0, .int .i64 0] 0 ?_; exact BK1063.out⟩
      have n4_ : Aside0 (Below w.heap.size w (((w9.setCell ⟨gb1063, 0, none⟩ (.bool ((rd_T26 l0 x8_1).f0.f0))).setCell ⟨gb1063, 1, none⟩ (.slice A1062_1 ((rd_T26 l0 x8_1).f0.f1).length c1062_1)).setCell ⟨gb1063, 2, none⟩ (.int .i64 ((rd_T26 l0 x8_1).f1)))) := ⟨bw_ HB.out⟩
      (try clear HO_1062001)
      (try clear BK1060)
      (try clear BK1061)
      (try clear BK1063)
      (try clear HB)
      generalize (((w9.setCell ⟨gb1063, 0, none⟩ (.bool ((rd_T26 l0 x8_1).f0.f0))).setCell ⟨gb1063, 1, none⟩ (.slice A1062_1 ((rd_T26 l0 x8_1).f0.f1).length c1062_1)).setCell ⟨gb1063, 2, none⟩ (.int .i64 ((rd_T26 l0 x8_1).f1))) = w13 at n0_ n1_ n2_ n3_ n4_ ⊢
      have HO_1062001 := n0_
      have BK1060 := n1_
      have BK1061 := n2_
      have BK1063 := n3_
      have HB := n4_
      clear n0_ n1_ n2_ n3_ n4_
      replace HO_1062001 := Aside0.mk (Kd.V_drew HO_1062001.out)
      replace BK1060 := Aside0.mk (blk_drew BK1060.out)
      replace BK1061 := Aside0.mk (blk_drew BK1061.out)
      replace BK1063 := Aside0.mk (blk_drew BK1063.out)
      replace HB := Aside0.mk (below_drew1 HB.out)
      refine start_ (n := 5) (S := fun w' => w'.cell? ⟨gb1061, 0, none⟩ = some (.bool x1062000_1) ∧ w'.cell? ⟨gb1061, 1, none⟩ = some (u1062001) ∧ w'.cell? ⟨gb1061, 2, none⟩ = some (.int .i64 x1062002_1) ∧ w'.cell? ⟨gb1063, 0, none⟩ = some (.bool ((rd_T26 l0 x8_1).f0.f0)) ∧ w'.cell? ⟨gb1063, 1, none⟩ = some (.slice A1062_1 ((rd_T26 l0 x8_1).f0.f1).length c1062_1) ∧ w'.cell? ⟨gb1063, 2, none⟩ = some (.int .i64 ((rd_T26 l0 x8_1).f1))) (ds := [4]) #[false, false, false, false, false] (by kernel_rfl) rfl rfl ⟨(blk_cell BK1061.out 0).trans rfl, (blk_cell BK1061.out 1).trans rfl, (blk_cell BK1061.out 2).trans rfl, (blk_cell BK1063.out 0).trans rfl, (blk_cell BK1063.out 1).trans rfl, (blk_cell BK1063.out 2).trans rfl⟩ (fun hHeld => ?_)
      generalize w13.drew = w14 at HO_1062001 BK1060 BK1061 BK1063 HB hHeld ⊢
      refine take_ (i := 0) (N := some 12) (v := ?_) (a' := ?_) #[true, false, false, false, false] rfl rfl (by kernel_rfl) (fun _ _ _ h => h) (Or.inl ⟨by rfl, ?_⟩) hHeld ?_ ?_
      rotate_left
      ·rintro w' ⟨s0, s1, s2, s3, s4, s5⟩
       go_simp
       with_reducible rfl
      rotate_left
      ·exact pt_
      refine take_ (i := 1) (N := some 13) (v := ?_) (a' := ?_) #[true, true, false, false, false] rfl rfl (by kernel_rfl) (fun _ _ _ h => h) (Or.inl ⟨by rfl, ?_⟩) hHeld ?_ ?_
      rotate_left
      ·rintro w' ⟨s0, s1, s2, s3, s4, s5⟩
       go_simp
       with_reducible rfl
      rotate_left
      ·exact pt_
      refine one_ (i := 2) (N := some 14) #[true, true, true, false, false] rfl rfl (by kernel_rfl) (by decide) (fun K hK => ?_)
      refine gs_ Tryd.func65 #[.agg #[.bool ((rd_T26 l0 x8_1).f0.f0), .slice A1062_1 ((rd_T26 l0 x8_1).f0.f1).length c1062_1, .int .i64 ((rd_T26 l0 x8_1).f1)]] ?_
      with_reducible refine (dy_fair.calls k1 ((rd_T26 l0 x8_1).f0.f0) (fun k_ => k_ < w.heap.size) _ _ ((rd_T26 l0 x8_1).f0.f1) ((rd_T26 l0 x8_1).f1) t1064 t1065 t1068 _ ?side1 A7.out ?sidet).mono ?_
      (case sidet => exact Kd.C_below HTAB.out (bw_ HB.out))
      (case side1 => exact Kd.V_mk HC1062_1.out (Kd.F_below (Kd.C_F (Kd.heap_int .u32) HR1062_1.out) (bw_ HB.out)))
      rintro e w15 ⟨v1066, rfl, ho0, hb⟩
      refine ⟨_, rfl, ?_⟩
      have n0_ := Aside0.mk (Kd.V_below (by (with_reducible repeat (first | apply Kd.V_alloc | apply Kd.V_drewN | apply Kd.V_drew)); exact HO_1062001.out) hb)
      have n1_ := Aside0.mk (Kd.V_lower (Kd.V_mono (ok' := fun k_ => k_ ≠ gb1060 ∧ k_ ≠ gb1061 ∧ k_ ≠ gb1063) ho0 (fun k_ hk_ => ⟨Or.elim hk_ (fun hs_ => fun e_ => Nat.not_le.2 hs_ (by rw [e_]; exact GW1060.out)) (fun hn_ => (Kd.freshB (g := gb1060) (o := .cells #[.bool false, .slice none 0 0, .int .i64 0] 26 (0, 0)) (kb_ BK1060.out) k_ hn_)), Or.elim hk_ (fun hs_ => fun e_ => Nat.not_le.2 hs_ (by rw [e_]; exact GW1061.out)) (fun hn_ => (Kd.freshB (g := gb1061) (o := .cells #[.bool x1062000_1, u1062001, .int .i64 x1062002_1] 26 (0, 0)) (kb_ BK1061.out) k_ hn_)), Or.elim hk_ (fun hs_ => fun e_ => Nat.not_le.2 hs_ (by rw [e_]; exact GW1063.out)) (fun hn_ => (Kd.freshB (g := gb1063) (o := .cells #[.bool ((rd_T26 l0 x8_1).f0.f0), .slice A1062_1 ((rd_T26 l0 x8_1).f0.f1).length c1062_1, .int .i64 ((rd_T26 l0 x8_1).f1)] 26 (0, 0)) (kb_ BK1063.out) k_ hn_))⟩)) (below_size (bw_ HB.out)))
      have n2_ := kq_ BK1060 hb
      have n3_ := kq_ BK1061 hb
      have n4_ := Aside0.mk (blk_below (g := gb1063) (o := .cells #[.bool ((rd_T26 l0 x8_1).f0.f0), .slice A1062_1 ((rd_T26 l0 x8_1).f0.f1).length c1062_1, .int .i64 ((rd_T26 l0 x8_1).f1)] 26 (0, 0)) (kb_ BK1063.out) hb)
      have n5_ := bq_ HB hb
      clear HO_1062001
      clear BK1060
      clear BK1061
      clear BK1063
      clear HB
      have HO_1062001 := n0_
      have HO1067 := n1_
      have BK1060 := n2_
      have BK1061 := n3_
      have BK1063 := n4_
      have HB := n5_
      clear n0_ n1_ n2_ n3_ n4_ n5_
      (try clear hb)
      (try clear hb2)
      (try clear hk)
      (try clear hi)
      (try clear ho0)
      obtain ⟨Ao16, co16, eo16⟩ := Kd.V_slice HO_1062001.out
      (first | subst eo16 | (injection eo16 with f1_ f2_ f3_; have f4_ := f1_.symm; have f5_ := f3_.symm; clear f1_ f2_ f3_; subst f4_; subst f5_))
      obtain ⟨Ao17, co17, eo17⟩ := Kd.V_slice HO1067.out
      (first | subst eo17 | (injection eo17 with f1_ f2_ f3_; have f4_ := f1_.symm; have f5_ := f3_.symm; clear f1_ f2_ f3_; subst f4_; subst f5_))
      refine hK.out _ _ ⟨(blk_cell BK1061.out 0).trans rfl, (blk_cell BK1061.out 1).trans rfl, (blk_cell BK1061.out 2).trans rfl, (blk_cell BK1063.out 0).trans rfl, (blk_cell BK1063.out 1).trans rfl, (blk_cell BK1063.out 2).trans rfl⟩ (fun hHeld => ?_)
      clear hK K
      refine norm_ (a' := ?_) ?_ ?_
      rotate_left
      ·show Act.put _ (some 14) _ = _
       exact pt_
      refine one_ (i := 3) (N := some 15) #[true, true, true, true, false] rfl rfl (by kernel_rfl) (by decide) (fun K hK => ?_)
      refine gs_ Tryd.func87 #[.agg #[.bool x1062000_1, .slice Ao16 x1062001_1.length co16, .int .i64 x1062002_1], .agg #[.bool t1064, .slice Ao17 t1065.length co17, .int .i64 t1068]] ?_
      with_reducible refine (dy_add.calls k1 x1062000_1 (fun k_ => (k_ ≠ gb1060 ∧ (k_ ≠ gb1061 ∧ k_ ≠ gb1063))) _ _ x1062001_1 x1062002_1 t1064 (fun k_ => (k_ ≠ gb1060 ∧ (k_ ≠ gb1061 ∧ k_ ≠ gb1063))) _ _ t1065 t1068 t1069 t1070 t1073 _ ?side1 ?side2 A8.out ?sidet).mono ?_
      (case sidet => exact Kd.C_below HTAB.out (bw_ HB.out))
      (case side1 => exact HO_1062001.out)
      (case side2 => exact HO1067.out)
      rintro e w18 ⟨v1071, rfl, ho0, hb⟩
      refine ⟨_, rfl, ?_⟩
      have n0_ := Aside0.mk (Kd.V_below (by (with_reducible repeat (first | apply Kd.V_alloc | apply Kd.V_drewN | apply Kd.V_drew)); exact HO_1062001.out) hb)
      have n1_ := Aside0.mk (Kd.V_below (by (with_reducible repeat (first | apply Kd.V_alloc | apply Kd.V_drewN | apply Kd.V_drew)); exact HO1067.out) hb)
      have n2_ := Aside0.mk (Kd.V_lower (Kd.V_mono (ok' := fun k_ => k_ ≠ gb1060 ∧ k_ ≠ gb1061 ∧ k_ ≠ gb1063) ho0 (fun k_ hk_ => ⟨Or.elim hk_ (fun hs_ => Or.elim hs_ (fun hs_ => hs_.1) (fun hs_ => hs_.1)) (fun hn_ => (Kd.freshB (g := gb1060) (o := .cells #[.bool false, .slice none 0 0, .int .i64 0] 26 (0, 0)) (kb_ BK1060.out) k_ hn_)), Or.elim hk_ (fun hs_ => Or.elim hs_ (fun hs_ => hs_.2.1) (fun hs_ => hs_.2.1)) (fun hn_ => (Kd.freshB (g := gb1061) (o := .cells #[.bool x1062000_1, .slice Ao16 x1062001_1.length co16, .int .i64 x1062002_1] 26 (0, 0)) (kb_ BK1061.out) k_ hn_)), Or.elim hk_ (fun hs_ => Or.elim hs_ (fun hs_ => hs_.2.2) (fun hs_ => hs_.2.2)) (fun hn_ => (Kd.freshB (g := gb1063) (o := .cells #[.bool ((rd_T26 l0 x8_1).f0.f0), .slice A1062_1 ((rd_T26 l0 x8_1).f0.f1).length c1062_1, .int .i64 ((rd_T26 l0 x8_1).f1)] 26 (0, 0)) (kb_ BK1063.out) k_ hn_))⟩)) (below_size (bw_ HB.out)))
      have n3_ := kq_ BK1060 hb
      have n4_ := kq_ BK1061 hb
      have n5_ := Aside0.mk (blk_below (g := gb1063) (o := .cells #[.bool ((rd_T26 l0 x8_1).f0.f0), .slice A1062_1 ((rd_T26 l0 x8_1).f0.f1).length c1062_1, .int .i64 ((rd_T26 l0 x8_1).f1)] 26 (0, 0)) (kb_ BK1063.out) hb)
      have n6_ := bq_ HB hb
      clear HO_1062001
      clear HO1067
      clear BK1060
      clear BK1061
      clear BK1063
      clear HB
      have HO_1062001 := n0_
      have HO1067 := n1_
      have HO1072 := n2_
      have BK1060 := n3_
      have BK1061 := n4_
      have BK1063 := n5_
      have HB := n6_
      clear n0_ n1_ n2_ n3_ n4_ n5_ n6_
      (try clear hb)
      (try clear hb2)
      (try clear hk)
      (try clear hi)
      (try clear ho0)
      obtain ⟨Ao20, co20, eo20⟩ := Kd.V_slice HO1072.out
      (first | subst eo20 | (injection eo20 with f1_ f2_ f3_; have f4_ := f1_.symm; have f5_ := f3_.symm; clear f1_ f2_ f3_; subst f4_; subst f5_))
      refine hK.out _ _ ⟨(blk_cell BK1061.out 0).trans rfl, (blk_cell BK1061.out 1).trans rfl, (blk_cell BK1061.out 2).trans rfl, (blk_cell BK1063.out 0).trans rfl, (blk_cell BK1063.out 1).trans rfl, (blk_cell BK1063.out 2).trans rfl⟩ (fun hHeld => ?_)
      clear hK K
      refine norm_ (a' := ?_) ?_ ?_
      rotate_left
      ·show Act.put _ (some 15) _ = _
       exact pt_
      refine last_ (i := 4) (N := none) #[true, true, true, true, true] rfl rfl (by kernel_rfl) (by decide) (fun K hK => ?_)
      have hs19 : w18.cell? ⟨gb1061, 0, none⟩ = some (.bool x1062000_1) := (blk_cell BK1061.out 0).trans rfl
      have hfs19 := fz_ BK1061 0
      have hns19_0 := NB1060_1061.out
      have hns19_2 := NB1063_1061.out
      have hms19_0 := NB1061_1060.out
      have hms19_2 := NB1061_1063.out
      have hs21 : w18.cell? ⟨gb1061, 1, none⟩ = some (.slice Ao16 x1062001_1.length co16) := (blk_cell BK1061.out 1).trans rfl
      have hfs21 := fz_ BK1061 1
      have hns21_0 := NB1060_1061.out
      have hns21_2 := NB1063_1061.out
      have hms21_0 := NB1061_1060.out
      have hms21_2 := NB1061_1063.out
      have hs22 : w18.cell? ⟨gb1061, 2, none⟩ = some (.int .i64 x1062002_1) := (blk_cell BK1061.out 2).trans rfl
      have hfs22 := fz_ BK1061 2
      have hns22_0 := NB1060_1061.out
      have hns22_2 := NB1063_1061.out
      have hms22_0 := NB1061_1060.out
      have hms22_2 := NB1061_1063.out
      refine skip_ (w1 := ?_) (by rfl) rfl ?_ ?_
      rotate_left
      ·go_simp
       rfl
      refine hK.out _ _ ?_
      clear hK K
      refine done_ (by kernel_rfl) ?_
      try go_wp2
      go_roundg k1
      case measure => have := HK1.out; omega
      case rel => exact ⟨(wrap64 (x8_1 + 1)), (t1069), (t1070), (t1073), (.slice Ao20 t1070.length co20), (by first | rfl | (simp; done) | (simp [*]; done)), H', ⟨by have := HK1.out; omega⟩, ⟨by (with_reducible repeat (first | apply Kd.V_alloc | apply Kd.V_drewN | apply Kd.V_drew)); exact Kd.V_mono (Kd.V_far (p := ⟨gb1061, 2, none⟩) (Kd.V_far (p := ⟨gb1061, 1, none⟩) (Kd.V_far (p := ⟨gb1061, 0, none⟩) (Kd.V_mono HO1072.out (fun k_ hk => (⟨hk, hk.2.1⟩ : _ ∧ k_ ≠ gb1061))) (fun _ hk => hk.2) (.bool t1069)) (fun _ hk => hk.2) (.slice Ao20 t1070.length co20)) (fun _ hk => hk.2) (.int .i64 t1073)) (fun _ hk => by first | exact ⟨hk.1.1, hk.1.2.1⟩ | (simp only [ob_map] at hk ⊢; exact ⟨hk.1.1, hk.1.2.1⟩))⟩, ⟨by refine kb_ ?_; refine bf_ NB1060_1061 ?_; refine bf_ NB1060_1061 ?_; refine bf_ NB1060_1061 ?_; exact BK1060.out⟩, ⟨by refine kb_ ?_; refine bp_ #[.bool t1069, .slice Ao20 t1070.length co20, .int .i64 x1062002_1] 2 ?_; refine bp_ #[.bool t1069, .slice Ao16 x1062001_1.length co16, .int .i64 x1062002_1] 1 ?_; refine bp_ #[.bool x1062000_1, .slice Ao16 x1062001_1.length co16, .int .i64 x1062002_1] 0 ?_; exact BK1061.out⟩, ⟨bw_ HB.out⟩⟩
     ·rw [if_neg c6] at H
      exact absurd H (by simp)
    ·rw [if_neg c5] at H
     exact absurd H (by simp)
   ·rw [if_neg c4] at H
    have c4b0 : decide (x8_1 < (l0.length : Int)) = false := decide_eq_false c4
    clear c4
    replace H := Option.bind_eq_some_iff.mp H
    obtain ⟨⟨t1074, t1075, t1078⟩, A230, H⟩ := H
    (try dsimp only at H)
    have A23 := Aside0.mk A230
    clear A230
    simp only [Option.some.injEq, Prod.mk.injEq] at H
    obtain ⟨rfl, rfl, rfl⟩ := H
    have hnb24 := NB1061_1060.out
    have hnc24 := NB1060_1061.out
    obtain ⟨hcz25_0, hcz25_1, hcz25_2, hfz25_0, hfz25_1, hfz25_2⟩ := c3_ BK1061
    obtain ⟨Ao26, co26, eo26⟩ := Kd.V_slice HO_1062001.out
    subst eo26
    go_wp2_with (first | ((with_reducible refine gate_callee (f := 88) rfl ?_); refine gl_ (some 18) Tryd.func88 #[.agg #[.bool x1062000_1, .slice Ao26 x1062001_1.length co26, .int .i64 x1062002_1]] ?_; (with_reducible refine (dy_own.calls k1 x1062000_1 _ _ x1062001_1 x1062002_1 t1074 t1075 t1078 _ ?side1 ?side2 A23.out ?sidet).mono ?_); (case sidet => exact Kd.C_below HTAB.out (bw_ HB.out)); (case side1 => exact kc_ (Kd.V_reads' HO_1062001.out).2.2); (case side2 => exact (Kd.V_reads' HO_1062001.out).2.1); rintro e w27 ⟨v1076, rfl, ho0, hb⟩; refine ⟨_, rfl, ?_⟩; have n0_ := Aside0.mk (Kd.V_elder' (by (with_reducible repeat (first | apply Kd.V_alloc | apply Kd.V_drewN | apply Kd.V_drew)); exact HO_1062001.out) (Kd.R_base ho0) hb); have n1_ := Aside0.mk (Kd.R_lower ho0 (below_size (bw_ HB.out))); have n2_ := kq_ BK1060 hb; have n3_ := kq_ BK1061 hb; have n4_ := bq_ HB hb; clear HO_1062001; clear BK1060; clear BK1061; clear HB; have HO_1062001 := n0_; have HO1077 := n1_; have BK1060 := n2_; have BK1061 := n3_; have HB := n4_; clear n0_ n1_ n2_ n3_ n4_; (try clear hb); (try clear hb2); (try clear hk); (try clear hi); (try clear ho0); obtain ⟨hcz28_0, hcz28_1, hcz28_2, hfz28_0, hfz28_1, hfz28_2⟩ := c3_ BK1060; obtain ⟨Ao29, co29, eo29⟩ := Kd.R_slice HO1077.out; subst eo29))
    refine bodyPost_ret (results_cell_row rfl _ _ gb1060 26 #[.bool t1074, .slice Ao29 t1075.length co29, .int .i64 t1078] (0, 0) _ rfl (by refine kb_ ?_; refine bp_ #[.bool t1074, .slice Ao29 t1075.length co29, .int .i64 0] 2 ?_; refine bp_ #[.bool t1074, .slice none 0 0, .int .i64 0] 1 ?_; refine bp_ #[.bool false, .slice none 0 0, .int .i64 0] 0 ?_; exact BK1060.out) Tryd.underlying26 rfl (by kernel_rfl)) rfl ?_
    exact ⟨_, rf_, by (with_reducible repeat (first | apply Kd.R_alloc | apply Kd.R_drewN | apply Kd.R_drew)); exact Kd.R_mono (Kd.R_far (p := ⟨gb1060, 2, none⟩) (Kd.R_far (p := ⟨gb1060, 1, none⟩) (Kd.R_far (p := ⟨gb1060, 0, none⟩) (Kd.R_types HO1077.out BK1060.out (by decide)) (fun _ hk => hk.2) (.bool t1074)) (fun _ hk => hk.2) (.slice Ao29 t1075.length co29)) (fun _ hk => hk.2) (.int .i64 t1078)) (fun _ hk => trivial), bw_ HB.out⟩

/-! ### whole_Neg: function 89 -/
set_option maxHeartbeats 8000000 in
set_option maxRecDepth 100000 in
theorem whole_Neg.calls (k : Nat) (a0_0 : Bool) (A0_1 : Option Addr) (c0_1 : Nat) (l0_1 : List Int) (r1 : Bool) (r2 : List Int) (w : World) (hr0_1 : Kd.C (Kd.int .u32) w A0_1 l0_1.length l0_1) (hc0_1 : l0_1.length ≤ c0_1) (h : whole_Neg.f k a0_0 l0_1 = some (r1, r2)) :
  Calls Tryd.prog 89 #[.agg #[.bool a0_0, .slice A0_1 l0_1.length c0_1]] w fun e w' => ∃ v1_ : Value, e = .returned (.agg #[.bool r1, v1_]) ∧ Kd.R (Kd.int .u32) 53 w' w.heap.size (fun _ => True) v1_ r2 ∧ Below w.heap.size w w' := by
 have hu24 := Tryd.underlying24
 have HR0_1 := Aside0.mk hr0_1
 have HC0_1 := Aside0.mk hc0_1
 clear hr0_1 hc0_1
 have HB := Aside0.mk (Below.refl w.heap.size w)
 have H : ((whole_Make.f k (!a0_0) l0_1).bind fun bt1081 => (some (bt1081.1, bt1081.2))) = some (r1, r2) := h
 clear h
 replace H := Option.bind_eq_some_iff.mp H
 obtain ⟨⟨t1081, t1082⟩, A20, H⟩ := H
 (try dsimp only at H)
 have A2 := Aside0.mk A20
 clear A20
 simp only [Option.some.injEq, Prod.mk.injEq] at H
 obtain ⟨rfl, rfl⟩ := H
 go_enter Tryd.func89, Tryd.ntmps89
 go_wp2_with (first | ((with_reducible refine gate_dst (N := 1) rfl ?_); refine bx_ 1 #[.bool a0_0, .slice A0_1 l0_1.length c0_1] 24 ?_; intro gb1079 hg w3 hbox hb; have BK1079 := Aside0.mk (hbox); have GW1079 := ge_ hg HB; have GE1079 := ge_ hg HB; replace HB := bq_ HB hb; clear hb hbox hg) | ((with_reducible refine gate_dst (N := 2) rfl ?_); refine bx_ 2 #[.bool false, .slice none 0 0] 24 ?_; intro gb1080 hg w4 hbox hb; have BK1080 := Aside0.mk (hbox); have GW1080 := ge_ hg HB; have GE1080 := ge_ hg HB; have NB1079_1080 := nb_ hg BK1079; have NB1080_1079 := nc_ hg BK1079; replace BK1079 := kq_ BK1079 hb; replace HB := bq_ HB hb; clear hb hbox hg; have hnb5 := NB1079_1080.out; have hnc5 := NB1080_1079.out; obtain ⟨hcz6_0, hcz6_1, hfz6_0, hfz6_1⟩ := c2_ BK1079) | ((with_reducible refine gate_callee (f := 59) rfl ?_); refine gl_ (some 8) Tryd.func59 #[.bool (!a0_0), .slice A0_1 l0_1.length c0_1] ?_; (with_reducible refine (whole_Make.calls k (!a0_0) _ _ l0_1 t1081 t1082 _ ?side1 ?side2 A2.out).mono ?_); (case side1 => exact kc_ (Kd.C_below HR0_1.out HB.out)); (case side2 => exact HC0_1.out); rintro e w7 ⟨v1083, rfl, ho0, hb⟩; refine ⟨_, rfl, ?_⟩; have HO1084 := Aside0.mk (Kd.R_lower ho0 (below_size (bw_ HB.out))); replace BK1079 := kq_ BK1079 hb; replace BK1080 := kq_ BK1080 hb; replace HB := bq_ HB hb; (try clear hb); (try clear hb2); (try clear hk); (try clear hi); (try clear ho0); obtain ⟨hcz8_0, hcz8_1, hfz8_0, hfz8_1⟩ := c2_ BK1080; obtain ⟨Ao9, co9, eo9⟩ := Kd.R_slice HO1084.out; subst eo9))
 refine bodyPost_ret (results_cell_row rfl _ _ gb1080 24 #[.bool t1081, .slice Ao9 t1082.length co9] (0, 0) _ rfl (by refine kb_ ?_; refine bp_ #[.bool t1081, .slice none 0 0] 1 ?_; refine bp_ #[.bool false, .slice none 0 0] 0 ?_; exact BK1080.out) Tryd.underlying24 rfl (by kernel_rfl)) rfl ?_
 exact ⟨_, rf_, by (with_reducible repeat (first | apply Kd.R_alloc | apply Kd.R_drewN | apply Kd.R_drew)); exact Kd.R_mono (Kd.R_far (p := ⟨gb1080, 1, none⟩) (Kd.R_far (p := ⟨gb1080, 0, none⟩) (Kd.R_types HO1084.out BK1080.out (by decide)) (fun _ hk => hk.2) (.bool t1081)) (fun _ hk => hk.2) (.slice Ao9 t1082.length co9)) (fun _ hk => trivial), bw_ HB.out⟩

/-! ### dy_Neg: function 81 -/
set_option maxHeartbeats 8000000 in
set_option maxRecDepth 100000 in
theorem dy_Neg.calls (k : Nat) (a0_0 : Bool) (A0_1 : Option Addr) (c0_1 : Nat) (l0_1 : List Int) (a0_2 : Int) (r1 : Bool) (r2 : List Int) (r3 : Int) (w : World) (hr0_1 : Kd.C (Kd.int .u32) w A0_1 l0_1.length l0_1) (hc0_1 : l0_1.length ≤ c0_1) (h : dy_Neg.f k a0_0 l0_1 a0_2 = some (r1, r2, r3)) (htab_ : Kd.C (Kd.int .u8) w (some ⟨0, 0, none⟩) 32 tz32tab) :
  Calls Tryd.prog 81 #[.agg #[.bool a0_0, .slice A0_1 l0_1.length c0_1, .int .i64 a0_2]] w fun e w' => ∃ v1_ : Value, e = .returned (.agg #[.bool r1, v1_, .int .i64 r3]) ∧ Kd.R (Kd.int .u32) 53 w' w.heap.size (fun _ => True) v1_ r2 ∧ Below w.heap.size w w' := by
 have HTAB := Aside0.mk htab_
 clear htab_
 have hu26 := Tryd.underlying26
 have hu24 := Tryd.underlying24
 have HR0_1 := Aside0.mk hr0_1
 have HC0_1 := Aside0.mk hc0_1
 clear hr0_1 hc0_1
 have HB := Aside0.mk (Below.refl w.heap.size w)
 have H : ((whole_Neg.f k a0_0 l0_1).bind fun bt1087 => ((dy_Make.f k bt1087.1 bt1087.2 a0_2).bind fun bt1091 => (some (bt1091.1, bt1091.2.1, bt1091.2.2)))) = some (r1, r2, r3) := h
 clear h
 replace H := Option.bind_eq_some_iff.mp H
 obtain ⟨⟨t1087, t1088⟩, A20, H⟩ := H
 (try dsimp only at H)
 have A2 := Aside0.mk A20
 clear A20
 replace H := Option.bind_eq_some_iff.mp H
 obtain ⟨⟨t1091, t1092, t1095⟩, A30, H⟩ := H
 (try dsimp only at H)
 have A3 := Aside0.mk A30
 clear A30
 simp only [Option.some.injEq, Prod.mk.injEq] at H
 obtain ⟨rfl, rfl, rfl⟩ := H
 go_enter Tryd.func81, Tryd.ntmps81
 try go_wp2_with (first | ((with_reducible refine gate_dst (N := 1) rfl ?_); refine bx_ 1 #[.bool a0_0, .slice A0_1 l0_1.length c0_1, .int .i64 a0_2] 26 ?_; intro gb1085 hg w4 hbox hb; have BK1085 := Aside0.mk (hbox); have GW1085 := ge_ hg HB; have GE1085 := ge_ hg HB; replace HB := bq_ HB hb; clear hb hbox hg) | ((with_reducible refine gate_dst (N := 2) rfl ?_); refine bx_ 2 #[.bool false, .slice none 0 0, .int .i64 0] 26 ?_; intro gb1086 hg w5 hbox hb; have BK1086 := Aside0.mk (hbox); have GW1086 := ge_ hg HB; have GE1086 := ge_ hg HB; have NB1085_1086 := nb_ hg BK1085; have NB1086_1085 := nc_ hg BK1085; replace BK1085 := kq_ BK1085 hb; replace HB := bq_ HB hb; clear hb hbox hg))
 replace BK1085 := Aside0.mk (blk_drew BK1085.out)
 replace BK1086 := Aside0.mk (blk_drew BK1086.out)
 replace HB := Aside0.mk (below_drew1 HB.out)
 refine start_ (n := 7) (S := fun w' => w'.cell? ⟨gb1085, 0, none⟩ = some (.bool a0_0) ∧ w'.cell? ⟨gb1085, 1, none⟩ = some (.slice A0_1 l0_1.length c0_1) ∧ w'.cell? ⟨gb1085, 2, none⟩ = some (.int .i64 a0_2)) (ds := []) #[false, false, false, false, false, false, false] (by kernel_rfl) rfl rfl ⟨(blk_cell BK1085.out 0).trans rfl, (blk_cell BK1085.out 1).trans rfl, (blk_cell BK1085.out 2).trans rfl⟩ (fun hHeld => ?_)
 generalize w5.drew = w6 at BK1085 BK1086 HB hHeld ⊢
 refine pure_ (i := 0) (N := some 3) (v := ?_) (a' := ?_) #[true, false, false, false, false, false, false] rfl rfl (by kernel_rfl) (fun _ _ _ h => h) (Or.inl ⟨by rfl, ?_⟩) ?_ ?_
 rotate_left
 ·intro w'
  go_simp
  with_reducible rfl
 rotate_left
 ·exact pt_
 refine pure_ (i := 3) (N := some 6) (v := ?_) (a' := ?_) #[true, false, false, true, false, false, false] rfl rfl (by kernel_rfl) (fun _ _ _ h => h) (Or.inl ⟨by rfl, ?_⟩) ?_ ?_
 rotate_left
 ·intro w'
  go_simp
  with_reducible rfl
 rotate_left
 ·exact pt_
 refine take_ (i := 1) (N := some 4) (v := ?_) (a' := ?_) #[true, true, false, true, false, false, false] rfl rfl (by kernel_rfl) (fun _ _ _ h => h) (Or.inl ⟨by rfl, ?_⟩) hHeld ?_ ?_
 rotate_left
 ·rintro w' ⟨s0, s1, s2⟩
  go_simp
  with_reducible rfl
 rotate_left
 ·exact pt_
 refine take_ (i := 4) (N := some 7) (v := ?_) (a' := ?_) #[true, true, false, true, true, false, false] rfl rfl (by kernel_rfl) (fun _ _ _ h => h) (Or.inl ⟨by rfl, ?_⟩) hHeld ?_ ?_
 rotate_left
 ·rintro w' ⟨s0, s1, s2⟩
  go_simp
  with_reducible rfl
 rotate_left
 ·exact pt_
 refine one_ (i := 2) (N := some 5) #[true, true, true, true, true, false, false] rfl rfl (by kernel_rfl) (by decide) (fun K hK => ?_)
 refine gs_ Tryd.func89 #[.agg #[.bool a0_0, .slice A0_1 l0_1.length c0_1]] ?_
 with_reducible refine (whole_Neg.calls k a0_0 _ _ l0_1 t1087 t1088 _ ?side1 ?side2 A2.out).mono ?_
 (case side1 => exact kc_ (Kd.C_below HR0_1.out HB.out))
 (case side2 => exact HC0_1.out)
 rintro e w7 ⟨v1089, rfl, ho0, hb⟩
 refine ⟨_, rfl, ?_⟩
 have HO1090 := Aside0.mk (Kd.R_lower ho0 (below_size (bw_ HB.out)))
 replace BK1085 := kq_ BK1085 hb
 replace BK1086 := kq_ BK1086 hb
 replace HB := bq_ HB hb
 (try clear hb)
 (try clear hb2)
 (try clear hk)
 (try clear hi)
 (try clear ho0)
 obtain ⟨Ao8, co8, eo8⟩ := Kd.R_slice HO1090.out
 (first | subst eo8 | (injection eo8 with f1_ f2_ f3_; have f4_ := f1_.symm; have f5_ := f3_.symm; clear f1_ f2_ f3_; subst f4_; subst f5_))
 refine hK.out _ _ ⟨(blk_cell BK1085.out 0).trans rfl, (blk_cell BK1085.out 1).trans rfl, (blk_cell BK1085.out 2).trans rfl⟩ (fun hHeld => ?_)
 clear hK K
 refine norm_ (a' := ?_) ?_ ?_
 rotate_left
 ·show Act.put _ (some 5) _ = _
  exact pt_
 refine one_ (i := 5) (N := some 8) #[true, true, true, true, true, true, false] rfl rfl (by kernel_rfl) (by decide) (fun K hK => ?_)
 refine gs_ Tryd.func58 #[.agg #[.bool t1087, .slice Ao8 t1088.length co8], .int .i64 a0_2] ?_
 with_reducible refine (dy_Make.calls k t1087 _ _ t1088 a0_2 t1091 t1092 t1095 _ ?side1 ?side2 A3.out ?sidet).mono ?_
 (case sidet => exact Kd.C_below HTAB.out (bw_ HB.out))
 (case side1 => exact kc_ (Kd.R_reads' HO1090.out).2.2)
 (case side2 => exact (Kd.R_reads' HO1090.out).2.1)
 rintro e w9 ⟨v1093, rfl, ho0, hb⟩
 refine ⟨_, rfl, ?_⟩
 have HO1094 := Aside0.mk (Kd.R_lower (Kd.R_new' ho0 (Kd.R_lt (kr_ HO1090.out))) (below_size (bw_ HB.out)))
 replace HO1090 := Aside0.mk (Kd.R_elder' (kr_ HO1090.out) (Kd.R_base ho0) hb)
 replace BK1085 := kq_ BK1085 hb
 replace BK1086 := kq_ BK1086 hb
 replace HB := bq_ HB hb
 (try clear hb)
 (try clear hb2)
 (try clear hk)
 (try clear hi)
 (try clear ho0)
 obtain ⟨Ao11, co11, eo11⟩ := Kd.R_slice HO1094.out
 (first | subst eo11 | (injection eo11 with f1_ f2_ f3_; have f4_ := f1_.symm; have f5_ := f3_.symm; clear f1_ f2_ f3_; subst f4_; subst f5_))
 refine hK.out _ _ ⟨(blk_cell BK1085.out 0).trans rfl, (blk_cell BK1085.out 1).trans rfl, (blk_cell BK1085.out 2).trans rfl⟩ (fun hHeld => ?_)
 clear hK K
 refine norm_ (a' := ?_) ?_ ?_
 rotate_left
 ·show Act.put _ (some 8) _ = _
  exact pt_
 refine one_ (i := 6) (N := none) #[true, true, true, true, true, true, true] rfl rfl (by kernel_rfl) (by decide) (fun K hK => ?_)
 have hs10 : w9.cell? ⟨gb1086, 0, none⟩ = some (.bool false) := (blk_cell BK1086.out 0).trans rfl
 have hfs10 := fz_ BK1086 0
 have hns10_0 := NB1085_1086.out
 have hms10_0 := NB1086_1085.out
 have hs12 : w9.cell? ⟨gb1086, 1, none⟩ = some (.slice none 0 0) := (blk_cell BK1086.out 1).trans rfl
 have hfs12 := fz_ BK1086 1
 have hns12_0 := NB1085_1086.out
 have hms12_0 := NB1086_1085.out
 have hs13 : w9.cell? ⟨gb1086, 2, none⟩ = some (.int .i64 0) := (blk_cell BK1086.out 2).trans rfl
 have hfs13 := fz_ BK1086 2
 have hns13_0 := NB1085_1086.out
 have hms13_0 := NB1086_1085.out
 refine skip_ (w1 := ?_) (by rfl) rfl ?_ ?_
 rotate_left
 ·go_simp
  rfl
 refine hK.out _ _ ⟨((cell_far (p := ⟨gb1086, _, none⟩) NB1085_1086.out _).trans (((cell_far (p := ⟨gb1086, _, none⟩) NB1085_1086.out _).trans (((cell_far (p := ⟨gb1086, _, none⟩) NB1085_1086.out _).trans (hHeld.1)))))), ((cell_far (p := ⟨gb1086, _, none⟩) NB1085_1086.out _).trans (((cell_far (p := ⟨gb1086, _, none⟩) NB1085_1086.out _).trans (((cell_far (p := ⟨gb1086, _, none⟩) NB1085_1086.out _).trans (hHeld.2.1)))))), ((cell_far (p := ⟨gb1086, _, none⟩) NB1085_1086.out _).trans (((cell_far (p := ⟨gb1086, _, none⟩) NB1085_1086.out _).trans (((cell_far (p := ⟨gb1086, _, none⟩) NB1085_1086.out _).trans (hHeld.2.2))))))⟩ (fun hHeld => ?_)
 clear hK K
 refine done_ (by kernel_rfl) ?_
 try go_wp2
 refine bodyPost_ret (results_cell_row rfl _ _ gb1086 26 #[.bool t1091, .slice Ao11 t1092.length co11, .int .i64 t1095] (0, 0) _ rfl (by refine kb_ ?_; refine bp_ #[.bool t1091, .slice Ao11 t1092.length co11, .int .i64 0] 2 ?_; refine bp_ #[.bool t1091, .slice none 0 0, .int .i64 0] 1 ?_; refine bp_ #[.bool false, .slice none 0 0, .int .i64 0] 0 ?_; exact BK1086.out) Tryd.underlying26 rfl (by kernel_rfl)) rfl ?_
 exact ⟨_, rf_, by (with_reducible repeat (first | apply Kd.R_alloc | apply Kd.R_drewN | apply Kd.R_drew)); exact Kd.R_mono (Kd.R_far (p := ⟨gb1086, 2, none⟩) (Kd.R_far (p := ⟨gb1086, 1, none⟩) (Kd.R_far (p := ⟨gb1086, 0, none⟩) (Kd.R_types HO1094.out BK1086.out (by decide)) (fun _ hk => hk.2) (.bool t1091)) (fun _ hk => hk.2) (.slice Ao11 t1092.length co11)) (fun _ hk => hk.2) (.int .i64 t1095)) (fun _ hk => trivial), bw_ HB.out⟩

/-! ### dy_Sub: function 64 -/
set_option maxHeartbeats 8000000 in
set_option maxRecDepth 100000 in
theorem dy_Sub.calls (k : Nat) (a0_0 : Bool) (P0_1_ : Nat → Prop) (A0_1 : Option Addr) (c0_1 : Nat) (l0_1 : List Int) (a0_2 : Int) (a1_0 : Bool) (A1_1 : Option Addr) (c1_1 : Nat) (l1_1 : List Int) (a1_2 : Int) (r1 : Bool) (r2 : List Int) (r3 : Int) (w : World) (hs0_1 : Kd.V (Kd.int .u32) 53 w w.heap.size (fun k_ => P0_1_ k_) (.slice A0_1 l0_1.length c0_1) l0_1) (hr1_1 : Kd.C (Kd.int .u32) w A1_1 l1_1.length l1_1) (hc1_1 : l1_1.length ≤ c1_1) (h : dy_Sub.f k a0_0 l0_1 a0_2 a1_0 l1_1 a1_2 = some (r1, r2, r3)) (htab_ : Kd.C (Kd.int .u8) w (some ⟨0, 0, none⟩) 32 tz32tab) :
  Calls Tryd.prog 64 #[.agg #[.bool a0_0, .slice A0_1 l0_1.length c0_1, .int .i64 a0_2], .agg #[.bool a1_0, .slice A1_1 l1_1.length c1_1, .int .i64 a1_2]] w fun e w' => ∃ v1_ : Value, e = .returned (.agg #[.bool r1, v1_, .int .i64 r3]) ∧ Kd.R (Kd.int .u32) 53 w' w.heap.size (fun k_ => (w.heap.size ≤ k_)) v1_ r2 ∧ Below w.heap.size w w' := by
 have HTAB := Aside0.mk htab_
 clear htab_
 have hu26 := Tryd.underlying26
 have HO0_1 := Aside0.mk (show Kd.V (Kd.int .u32) 53 w w.heap.size (fun k_ => (P0_1_ k_ ∨ w.heap.size ≤ k_)) (.slice A0_1 l0_1.length c0_1) l0_1 from Kd.V_mono hs0_1 (fun k_ hk => .inl hk))
 have HR1_1 := Aside0.mk hr1_1
 have HC1_1 := Aside0.mk hc1_1
 clear hr1_1 hc1_1
 have HB := Aside0.mk (Below.refl w.heap.size w)
 have H : ((dy_Neg.f k a1_0 l1_1 a1_2).bind fun bt1099 => ((dy_Add.f k (([(⟨(⟨a0_0, l0_1⟩ : S24), a0_2⟩ : S26), (⟨(⟨bt1099.1, bt1099.2.1⟩ : S24), bt1099.2.2⟩ : S26)] : List (S26)))).bind fun bt1107 => (some (bt1107.1, bt1107.2.1, bt1107.2.2)))) = some (r1, r2, r3) := h
 clear h
 replace H := Option.bind_eq_some_iff.mp H
 obtain ⟨⟨t1099, t1100, t1103⟩, A30, H⟩ := H
 (try dsimp only at H)
 have A3 := Aside0.mk A30
 clear A30
 obtain ⟨y1104, hy1104⟩ : ∃ y_ : List (S26), y_ = (([(⟨(⟨a0_0, l0_1⟩ : S24), a0_2⟩ : S26), (⟨(⟨t1099, t1100⟩ : S24), t1103⟩ : S26)] : List (S26))) := ⟨_, rfl⟩
 replace H : ((dy_Add.f k y1104).bind fun bt1107 => (some (bt1107.1, bt1107.2.1, bt1107.2.2))) = some (r1, r2, r3) := by first | (rw [hy1104]; with_reducible exact H) | (have H2_ := (Option.bind_some _ _).symm.trans H; rw [hy1104]; with_reducible exact H2_) | (have H2_ := (Option.bind_some _ _).symm.trans H; with_reducible exact H2_) | with_reducible exact H | (rw [hy1104]; exact H) | exact H
 have Ny1104 := Aside0.mk hy1104
 clear hy1104
 replace H := Option.bind_eq_some_iff.mp H
 obtain ⟨⟨t1107, t1108, t1111⟩, A40, H⟩ := H
 (try dsimp only at H)
 have A4 := Aside0.mk A40
 clear A40
 simp only [Option.some.injEq, Prod.mk.injEq] at H
 obtain ⟨rfl, rfl, rfl⟩ := H
 go_enter Tryd.func64, Tryd.ntmps64
 try go_wp2_with (first | ((with_reducible refine gate_dst (N := 2) rfl ?_); refine bx_ 2 #[.bool a0_0, .slice A0_1 l0_1.length c0_1, .int .i64 a0_2] 26 ?_; intro gb1096 hg w5 hbox hb; have n0_ := Aside0.mk (Kd.V_below (Kd.V_elderB (by (with_reducible repeat (first | apply Kd.V_alloc | apply Kd.V_drewN | apply Kd.V_drew)); exact HO0_1.out) gb1096 (Nat.le_of_eq hg.symm)) hb); have n1_ := bq_ HB hb; have n2_ := Aside0.mk (hbox); have n3_ := ge_ hg HB; have n4_ := ge_ hg HB; clear HO0_1; clear HB; have HO0_1 := n0_; have HB := n1_; have BK1096 := n2_; have GW1096 := n3_; have GE1096 := n4_; clear n0_ n1_ n2_ n3_ n4_; clear hb hbox hg) | ((with_reducible refine gate_dst (N := 3) rfl ?_); refine bx_ 3 #[.bool a1_0, .slice A1_1 l1_1.length c1_1, .int .i64 a1_2] 26 ?_; intro gb1097 hg w6 hbox hb; have n0_ := Aside0.mk (Kd.V_below (Kd.V_elderB (by (with_reducible repeat (first | apply Kd.V_alloc | apply Kd.V_drewN | apply Kd.V_drew)); exact HO0_1.out) gb1097 (Nat.le_of_eq hg.symm)) hb); have n1_ := kq_ BK1096 hb; have n2_ := bq_ HB hb; have n3_ := Aside0.mk (hbox); have n4_ := ge_ hg HB; have n5_ := ge_ hg HB; have n6_ := nb_ hg BK1096; have n7_ := nc_ hg BK1096; clear HO0_1; clear BK1096; clear HB; have HO0_1 := n0_; have BK1096 := n1_; have HB := n2_; have BK1097 := n3_; have GW1097 := n4_; have GE1097 := n5_; have NB1096_1097 := n6_; have NB1097_1096 := n7_; clear n0_ n1_ n2_ n3_ n4_ n5_ n6_ n7_; clear hb hbox hg) | ((with_reducible refine gate_dst (N := 4) rfl ?_); refine bx_ 4 #[.bool false, .slice none 0 0, .int .i64 0] 26 ?_; intro gb1098 hg w7 hbox hb; have n0_ := Aside0.mk (Kd.V_below (Kd.V_elderB (by (with_reducible repeat (first | apply Kd.V_alloc | apply Kd.V_drewN | apply Kd.V_drew)); exact HO0_1.out) gb1098 (Nat.le_of_eq hg.symm)) hb); have n1_ := kq_ BK1096 hb; have n2_ := kq_ BK1097 hb; have n3_ := bq_ HB hb; have n4_ := Aside0.mk (hbox); have n5_ := ge_ hg HB; have n6_ := ge_ hg HB; have n7_ := nb_ hg BK1096; have n8_ := nc_ hg BK1096; have n9_ := nb_ hg BK1097; have n10_ := nc_ hg BK1097; clear HO0_1; clear BK1096; clear BK1097; clear HB; have HO0_1 := n0_; have BK1096 := n1_; have BK1097 := n2_; have HB := n3_; have BK1098 := n4_; have GW1098 := n5_; have GE1098 := n6_; have NB1096_1098 := n7_; have NB1098_1096 := n8_; have NB1097_1098 := n9_; have NB1098_1097 := n10_; clear n0_ n1_ n2_ n3_ n4_ n5_ n6_ n7_ n8_ n9_ n10_; clear hb hbox hg))
 replace HO0_1 := Aside0.mk (Kd.V_drew HO0_1.out)
 replace BK1096 := Aside0.mk (blk_drew BK1096.out)
 replace BK1097 := Aside0.mk (blk_drew BK1097.out)
 replace BK1098 := Aside0.mk (blk_drew BK1098.out)
 replace HB := Aside0.mk (below_drew1 HB.out)
 refine start_ (n := 6) (S := fun w' => w'.cell? ⟨gb1096, 0, none⟩ = some (.bool a0_0) ∧ w'.cell? ⟨gb1096, 1, none⟩ = some (.slice A0_1 l0_1.length c0_1) ∧ w'.cell? ⟨gb1096, 2, none⟩ = some (.int .i64 a0_2) ∧ w'.cell? ⟨gb1097, 0, none⟩ = some (.bool a1_0) ∧ w'.cell? ⟨gb1097, 1, none⟩ = some (.slice A1_1 l1_1.length c1_1) ∧ w'.cell? ⟨gb1097, 2, none⟩ = some (.int .i64 a1_2)) (ds := []) #[false, false, false, false, false, false] (by kernel_rfl) rfl rfl ⟨(blk_cell BK1096.out 0).trans rfl, (blk_cell BK1096.out 1).trans rfl, (blk_cell BK1096.out 2).trans rfl, (blk_cell BK1097.out 0).trans rfl, (blk_cell BK1097.out 1).trans rfl, (blk_cell BK1097.out 2).trans rfl⟩ (fun hHeld => ?_)
 generalize w7.drew = w8 at HO0_1 BK1096 BK1097 BK1098 HB hHeld ⊢
 refine take_ (i := 0) (N := some 5) (v := ?_) (a' := ?_) #[true, false, false, false, false, false] rfl rfl (by kernel_rfl) (fun _ _ _ h => h) (Or.inl ⟨by rfl, ?_⟩) hHeld ?_ ?_
 rotate_left
 ·rintro w' ⟨s0, s1, s2, s3, s4, s5⟩
  go_simp
  with_reducible rfl
 rotate_left
 ·exact pt_
 refine take_ (i := 1) (N := some 6) (v := ?_) (a' := ?_) #[true, true, false, false, false, false] rfl rfl (by kernel_rfl) (fun _ _ _ h => h) (Or.inl ⟨by rfl, ?_⟩) hHeld ?_ ?_
 rotate_left
 ·rintro w' ⟨s0, s1, s2, s3, s4, s5⟩
  go_simp
  with_reducible rfl
 rotate_left
 ·exact pt_
 refine one_ (i := 2) (N := some 7) #[true, true, true, false, false, false] rfl rfl (by kernel_rfl) (by decide) (fun K hK => ?_)
 refine gs_ Tryd.func81 #[.agg #[.bool a1_0, .slice A1_1 l1_1.length c1_1, .int .i64 a1_2]] ?_
 with_reducible refine (dy_Neg.calls k a1_0 _ _ l1_1 a1_2 t1099 t1100 t1103 _ ?side1 ?side2 A3.out ?sidet).mono ?_
 (case sidet => exact Kd.C_below HTAB.out (bw_ HB.out))
 (case side1 => exact kc_ (Kd.C_below HR1_1.out HB.out))
 (case side2 => exact HC1_1.out)
 rintro e w9 ⟨v1101, rfl, ho0, hb⟩
 refine ⟨_, rfl, ?_⟩
 have n0_ := Aside0.mk (Kd.V_elder' (by (with_reducible repeat (first | apply Kd.V_alloc | apply Kd.V_drewN | apply Kd.V_drew)); exact HO0_1.out) (Kd.R_base ho0) hb)
 have n1_ := Aside0.mk (Kd.R_lower (Kd.R_newM (M := fun k_ => (w.heap.size ≤ k_)) ho0 (below_size (bw_ HB.out)) (fun k_ h_ => h_)) (below_size (bw_ HB.out)))
 have n2_ := kq_ BK1096 hb
 have n3_ := kq_ BK1097 hb
 have n4_ := kq_ BK1098 hb
 have n5_ := bq_ HB hb
 clear HO0_1
 clear BK1096
 clear BK1097
 clear BK1098
 clear HB
 have HO0_1 := n0_
 have HO1102 := n1_
 have BK1096 := n2_
 have BK1097 := n3_
 have BK1098 := n4_
 have HB := n5_
 clear n0_ n1_ n2_ n3_ n4_ n5_
 (try clear hb)
 (try clear hb2)
 (try clear hk)
 (try clear hi)
 (try clear ho0)
 obtain ⟨Ao10, co10, eo10⟩ := Kd.R_slice HO1102.out
 (first | subst eo10 | (injection eo10 with f1_ f2_ f3_; have f4_ := f1_.symm; have f5_ := f3_.symm; clear f1_ f2_ f3_; subst f4_; subst f5_))
 refine hK.out _ _ ⟨(blk_cell BK1096.out 0).trans rfl, (blk_cell BK1096.out 1).trans rfl, (blk_cell BK1096.out 2).trans rfl, (blk_cell BK1097.out 0).trans rfl, (blk_cell BK1097.out 1).trans rfl, (blk_cell BK1097.out 2).trans rfl⟩ (fun hHeld => ?_)
 clear hK K
 refine norm_ (a' := ?_) ?_ ?_
 rotate_left
 ·show Act.put _ (some 7) _ = _
  exact pt_
 refine one_ (i := 3) (N := some 8) #[true, true, true, true, false, false] rfl rfl (by kernel_rfl) (by decide) (fun K hK => ?_)
 refine Kd.N_lit_step k26 _ 26 ?hg (N' := 8) ?hd (xs := ([(⟨(⟨a0_0, l0_1⟩ : S24), a0_2⟩ : S26), (⟨(⟨t1099, t1100⟩ : S24), t1103⟩ : S26)] : List (S26))) (inner := [.bool a0_0, .slice A0_1 l0_1.length c0_1, .int .i64 a0_2, .bool t1099, .slice Ao10 t1100.length co10, .int .i64 t1103]) (ok := (fun k_ => (P0_1_ k_ ∨ w.heap.size ≤ k_) ∧ k_ ≠ gb1096 ∧ k_ ≠ gb1097 ∧ k_ ≠ gb1098)) (okp := (fun k_ => (P0_1_ k_ ∨ w.heap.size ≤ k_) ∧ k_ ≠ gb1096 ∧ k_ ≠ gb1097 ∧ k_ ≠ gb1098)) ?hr ?hp (fun _ hk => hk) ((show ∀ k_, w9.heap.size ≤ k_ → (fun k_ => (P0_1_ k_ ∨ w.heap.size ≤ k_) ∧ k_ ≠ gb1096 ∧ k_ ≠ gb1097 ∧ k_ ≠ gb1098) k_ from fun k_ hk => ⟨(.inr (Nat.le_trans (below_size (bw_ HB.out)) hk)), Kd.freshB (g := gb1096) (o := .cells #[.bool a0_0, .slice A0_1 l0_1.length c0_1, .int .i64 a0_2] 26 (0, 0)) (kb_ BK1096.out) k_ hk, Kd.freshB (g := gb1097) (o := .cells #[.bool a1_0, .slice A1_1 l1_1.length c1_1, .int .i64 a1_2] 26 (0, 0)) (kb_ BK1097.out) k_ hk, Kd.freshB (g := gb1098) (o := .cells #[.bool false, .slice none 0 0, .int .i64 0] 26 (0, 0)) (kb_ BK1098.out) k_ hk⟩) _ (Nat.le_refl _)) (Below.refl _ _) (Nat.le_refl _) (by simp) ?_; (case hd => rfl); (case hg => rfl); (case hr => first | (go_simp; done) | (go_simp; rfl)); (case hp => exact (Reps.c3 (show Kd.FK k26 _ _ (⟨(⟨a0_0, l0_1⟩ : S24), a0_2⟩ : S26) [.bool a0_0, .slice A0_1 l0_1.length c0_1, .int .i64 a0_2] from (k26_mkF _ _ (⟨(⟨a0_0, l0_1⟩ : S24), a0_2⟩ : S26) (Kd.V_reads' (Kd.V_mono (ok' := (fun k_ => (P0_1_ k_ ∨ w.heap.size ≤ k_) ∧ k_ ≠ gb1096 ∧ k_ ≠ gb1097 ∧ k_ ≠ gb1098)) (HO0_1.out) (fun k_ hk => ⟨hk.1.1.1.1, ⟨hk.1.1.1.2, ⟨hk.1.1.2, hk.1.2⟩⟩⟩))).2.1 (Kd.V_F (Kd.V_mono (ok' := (fun k_ => (P0_1_ k_ ∨ w.heap.size ≤ k_) ∧ k_ ≠ gb1096 ∧ k_ ≠ gb1097 ∧ k_ ≠ gb1098)) (HO0_1.out) (fun k_ hk => ⟨hk.1.1.1.1, ⟨hk.1.1.1.2, ⟨hk.1.1.2, hk.1.2⟩⟩⟩))))) (Reps.c3 (show Kd.FK k26 _ _ (⟨(⟨t1099, t1100⟩ : S24), t1103⟩ : S26) [.bool t1099, .slice Ao10 t1100.length co10, .int .i64 t1103] from (k26_mkF _ _ (⟨(⟨t1099, t1100⟩ : S24), t1103⟩ : S26) (Kd.R_reads' (Kd.R_mono (ok' := (fun k_ => (P0_1_ k_ ∨ w.heap.size ≤ k_) ∧ k_ ≠ gb1096 ∧ k_ ≠ gb1097 ∧ k_ ≠ gb1098)) (Kd.R_types (Kd.R_types (Kd.R_types (HO1102.out) BK1096.out (by decide)) BK1097.out (by decide)) BK1098.out (by decide)) (fun k_ hk => ⟨(.inr (hk.1.1.1.1)), ⟨hk.1.1.2, ⟨hk.1.2, hk.2⟩⟩⟩))).2.1 (Kd.R_F (Kd.R_mono (ok' := (fun k_ => (P0_1_ k_ ∨ w.heap.size ≤ k_) ∧ k_ ≠ gb1096 ∧ k_ ≠ gb1097 ∧ k_ ≠ gb1098)) (Kd.R_types (Kd.R_types (Kd.R_types (HO1102.out) BK1096.out (by decide)) BK1097.out (by decide)) BK1098.out (by decide)) (fun k_ hk => ⟨(.inr (hk.1.1.1.1)), ⟨hk.1.1.2, ⟨hk.1.2, hk.2⟩⟩⟩))))) (Reps.none _ _))))
 intro v1105 w11 ho12 hb hg_ hnew_
 clear hg_ hnew_
 (first | rw [← Ny1104.out] at ho12 | (simp only [Int.reduceToNat] at ho12; rw [← Ny1104.out] at ho12))
 have n0_ := Aside0.mk (Kd.V_elder' (by (with_reducible repeat (first | apply Kd.V_alloc | apply Kd.V_drewN | apply Kd.V_drew)); exact HO0_1.out) (Kd.N_base ho12) hb)
 have n1_ := Aside0.mk (Kd.N_lower ho12 (below_size (bw_ HB.out)))
 have n2_ := kq_ BK1096 hb
 have n3_ := kq_ BK1097 hb
 have n4_ := kq_ BK1098 hb
 have n5_ := bq_ HB hb
 clear HO0_1
 clear BK1096
 clear BK1097
 clear BK1098
 clear HB
 clear HO1102
 have HO0_1 := n0_
 have HO1106 := n1_
 have BK1096 := n2_
 have BK1097 := n3_
 have BK1098 := n4_
 have HB := n5_
 clear n0_ n1_ n2_ n3_ n4_ n5_
 clear hb ho12
 obtain ⟨Ao13, co13, eo13⟩ := Kd.N_slice HO1106.out
 (first | subst eo13 | (injection eo13 with f1_ f2_ f3_; have f4_ := f1_.symm; have f5_ := f3_.symm; clear f1_ f2_ f3_; subst f4_; subst f5_))
 refine hK.out _ _ ⟨(blk_cell BK1096.out 0).trans rfl, (blk_cell BK1096.out 1).trans rfl, (blk_cell BK1096.out 2).trans rfl, (blk_cell BK1097.out 0).trans rfl, (blk_cell BK1097.out 1).trans rfl, (blk_cell BK1097.out 2).trans rfl⟩ (fun hHeld => ?_)
 clear hK K
 refine norm_ (a' := ?_) ?_ ?_
 rotate_left
 ·show Act.put _ (some 8) _ = _
  exact pt_
 refine one_ (i := 4) (N := some 9) #[true, true, true, true, true, false] rfl rfl (by kernel_rfl) (by decide) (fun K hK => ?_)
 refine gs_ Tryd.func80 #[.slice Ao13 y1104.length co13] ?_
 with_reducible refine (dy_Add.calls k _ _ y1104 t1107 t1108 t1111 _ ?side1 ?side2 A4.out ?sidet).mono ?_
 (case sidet => exact Kd.C_below HTAB.out (bw_ HB.out))
 (case side1 => exact kc_ (Kd.N_reads' HO1106.out).2.2)
 (case side2 => exact (Kd.N_reads' HO1106.out).2.1)
 rintro e w14 ⟨v1109, rfl, ho0, hb⟩
 refine ⟨_, rfl, ?_⟩
 have n0_ := Aside0.mk (Kd.V_elder' (by (with_reducible repeat (first | apply Kd.V_alloc | apply Kd.V_drewN | apply Kd.V_drew)); exact HO0_1.out) (Kd.R_base ho0) hb)
 have n1_ := Aside0.mk (Kd.N_elder' (by (with_reducible repeat (first | apply Kd.N_alloc | apply Kd.N_drewN | apply Kd.N_drew)); exact HO1106.out) (Kd.R_base ho0) hb)
 have n2_ := Aside0.mk (Kd.R_lower (Kd.R_newM (M := fun k_ => (w.heap.size ≤ k_)) ho0 (below_size (bw_ HB.out)) (fun k_ h_ => h_)) (below_size (bw_ HB.out)))
 have n3_ := kq_ BK1096 hb
 have n4_ := kq_ BK1097 hb
 have n5_ := kq_ BK1098 hb
 have n6_ := bq_ HB hb
 clear HO0_1
 clear HO1106
 clear BK1096
 clear BK1097
 clear BK1098
 clear HB
 have HO0_1 := n0_
 have HO1106 := n1_
 have HO1110 := n2_
 have BK1096 := n3_
 have BK1097 := n4_
 have BK1098 := n5_
 have HB := n6_
 clear n0_ n1_ n2_ n3_ n4_ n5_ n6_
 (try clear hb)
 (try clear hb2)
 (try clear hk)
 (try clear hi)
 (try clear ho0)
 obtain ⟨Ao16, co16, eo16⟩ := Kd.R_slice HO1110.out
 (first | subst eo16 | (injection eo16 with f1_ f2_ f3_; have f4_ := f1_.symm; have f5_ := f3_.symm; clear f1_ f2_ f3_; subst f4_; subst f5_))
 refine hK.out _ _ ⟨(blk_cell BK1096.out 0).trans rfl, (blk_cell BK1096.out 1).trans rfl, (blk_cell BK1096.out 2).trans rfl, (blk_cell BK1097.out 0).trans rfl, (blk_cell BK1097.out 1).trans rfl, (blk_cell BK1097.out 2).trans rfl⟩ (fun hHeld => ?_)
 clear hK K
 refine norm_ (a' := ?_) ?_ ?_
 rotate_left
 ·show Act.put _ (some 9) _ = _
  exact pt_
 refine one_ (i := 5) (N := none) #[true, true, true, true, true, true] rfl rfl (by kernel_rfl) (by decide) (fun K hK => ?_)
 have hs15 : w14.cell? ⟨gb1098, 0, none⟩ = some (.bool false) := (blk_cell BK1098.out 0).trans rfl
 have hfs15 := fz_ BK1098 0
 have hns15_0 := NB1096_1098.out
 have hns15_1 := NB1097_1098.out
 have hms15_0 := NB1098_1096.out
 have hms15_1 := NB1098_1097.out
 have hs17 : w14.cell? ⟨gb1098, 1, none⟩ = some (.slice none 0 0) := (blk_cell BK1098.out 1).trans rfl
 have hfs17 := fz_ BK1098 1
 have hns17_0 := NB1096_1098.out
 have hns17_1 := NB1097_1098.out
 have hms17_0 := NB1098_1096.out
 have hms17_1 := NB1098_1097.out
 have hs18 : w14.cell? ⟨gb1098, 2, none⟩ = some (.int .i64 0) := (blk_cell BK1098.out 2).trans rfl
 have hfs18 := fz_ BK1098 2
 have hns18_0 := NB1096_1098.out
 have hns18_1 := NB1097_1098.out
 have hms18_0 := NB1098_1096.out
 have hms18_1 := NB1098_1097.out
 refine skip_ (w1 := ?_) (by rfl) rfl ?_ ?_
 rotate_left
 ·go_simp
  rfl
 refine hK.out _ _ ⟨((cell_far (p := ⟨gb1098, _, none⟩) NB1096_1098.out _).trans (((cell_far (p := ⟨gb1098, _, none⟩) NB1096_1098.out _).trans (((cell_far (p := ⟨gb1098, _, none⟩) NB1096_1098.out _).trans (hHeld.1)))))), ((cell_far (p := ⟨gb1098, _, none⟩) NB1096_1098.out _).trans (((cell_far (p := ⟨gb1098, _, none⟩) NB1096_1098.out _).trans (((cell_far (p := ⟨gb1098, _, none⟩) NB1096_1098.out _).trans (hHeld.2.1)))))), ((cell_far (p := ⟨gb1098, _, none⟩) NB1096_1098.out _).trans (((cell_far (p := ⟨gb1098, _, none⟩) NB1096_1098.out _).trans (((cell_far (p := ⟨gb1098, _, none⟩) NB1096_1098.out _).trans (hHeld.2.2.1)))))), ((cell_far (p := ⟨gb1098, _, none⟩) NB1097_1098.out _).trans (((cell_far (p := ⟨gb1098, _, none⟩) NB1097_1098.out _).trans (((cell_far (p := ⟨gb1098, _, none⟩) NB1097_1098.out _).trans (hHeld.2.2.2.1)))))), ((cell_far (p := ⟨gb1098, _, none⟩) NB1097_1098.out _).trans (((cell_far (p := ⟨gb1098, _, none⟩) NB1097_1098.out _).trans (((cell_far (p := ⟨gb1098, _, none⟩) NB1097_1098.out _).trans (hHeld.2.2.2.2.1)))))), ((cell_far (p := ⟨gb1098, _, none⟩) NB1097_1098.out _).trans (((cell_far (p := ⟨gb1098, _, none⟩) NB1097_1098.out _).trans (((cell_far (p := ⟨gb1098, _, none⟩) NB1097_1098.out _).trans (hHeld.2.2.2.2.2))))))⟩ (fun hHeld => ?_)
 clear hK K
 refine done_ (by kernel_rfl) ?_
 try go_wp2
 refine bodyPost_ret (results_cell_row rfl _ _ gb1098 26 #[.bool t1107, .slice Ao16 t1108.length co16, .int .i64 t1111] (0, 0) _ rfl (by refine kb_ ?_; refine bp_ #[.bool t1107, .slice Ao16 t1108.length co16, .int .i64 0] 2 ?_; refine bp_ #[.bool t1107, .slice none 0 0, .int .i64 0] 1 ?_; refine bp_ #[.bool false, .slice none 0 0, .int .i64 0] 0 ?_; exact BK1098.out) Tryd.underlying26 rfl (by kernel_rfl)) rfl ?_
 exact ⟨_, rf_, by (with_reducible repeat (first | apply Kd.R_alloc | apply Kd.R_drewN | apply Kd.R_drew)); exact Kd.R_mono (Kd.R_far (p := ⟨gb1098, 2, none⟩) (Kd.R_far (p := ⟨gb1098, 1, none⟩) (Kd.R_far (p := ⟨gb1098, 0, none⟩) (Kd.R_types HO1110.out BK1098.out (by decide)) (fun _ hk => hk.2) (.bool t1107)) (fun _ hk => hk.2) (.slice Ao16 t1108.length co16)) (fun _ hk => hk.2) (.int .i64 t1111)) (fun _ hk => hk.1.1), bw_ HB.out⟩

/-! ### dy_Cmp: function 36 -/
set_option maxHeartbeats 8000000 in
set_option maxRecDepth 100000 in
theorem dy_Cmp.calls (k : Nat) (a0_0 : Bool) (A0_1 : Option Addr) (c0_1 : Nat) (l0_1 : List Int) (a0_2 : Int) (a1_0 : Bool) (A1_1 : Option Addr) (c1_1 : Nat) (l1_1 : List Int) (a1_2 : Int) (r : Int) (w : World) (hr0_1 : Kd.C (Kd.int .u32) w A0_1 l0_1.length l0_1) (hc0_1 : l0_1.length ≤ c0_1) (hr1_1 : Kd.C (Kd.int .u32) w A1_1 l1_1.length l1_1) (hc1_1 : l1_1.length ≤ c1_1) (h : dy_Cmp.f k a0_0 l0_1 a0_2 a1_0 l1_1 a1_2 = some r) (htab_ : Kd.C (Kd.int .u8) w (some ⟨0, 0, none⟩) 32 tz32tab) :
  Calls Tryd.prog 36 #[.agg #[.bool a0_0, .slice A0_1 l0_1.length c0_1, .int .i64 a0_2], .agg #[.bool a1_0, .slice A1_1 l1_1.length c1_1, .int .i64 a1_2]] w fun e w' => e = .returned (.int .i64 r) ∧ Below w.heap.size w w' := by
 have HTAB := Aside0.mk htab_
 clear htab_
 have hu26 := Tryd.underlying26
 have HR0_1 := Aside0.mk hr0_1
 have HC0_1 := Aside0.mk hc0_1
 clear hr0_1 hc0_1
 have HR1_1 := Aside0.mk hr1_1
 have HC1_1 := Aside0.mk hc1_1
 clear hr1_1 hc1_1
 have HB := Aside0.mk (Below.refl w.heap.size w)
 have H : ((dy_Sub.f k a0_0 l0_1 a0_2 a1_0 l1_1 a1_2).bind fun bt1114 => ((dy_Sign.f k bt1114.1 bt1114.2.1 bt1114.2.2).bind fun t1119 => (some t1119))) = some r := h
 clear h
 replace H := Option.bind_eq_some_iff.mp H
 obtain ⟨⟨t1114, t1115, t1118⟩, A30, H⟩ := H
 (try dsimp only at H)
 have A3 := Aside0.mk A30
 clear A30
 replace H := Option.bind_eq_some_iff.mp H
 obtain ⟨t1119, A40, H⟩ := H
 (try dsimp only at H)
 have A4 := Aside0.mk A40
 clear A40
 obtain rfl := Option.some.inj H
 go_enter Tryd.func36, Tryd.ntmps36
 go_wp2_with (first | ((with_reducible refine gate_dst (N := 2) rfl ?_); refine bx_ 2 #[.bool a0_0, .slice A0_1 l0_1.length c0_1, .int .i64 a0_2] 26 ?_; intro gb1112 hg w5 hbox hb; have BK1112 := Aside0.mk (hbox); have GW1112 := ge_ hg HB; have GE1112 := ge_ hg HB; replace HB := bq_ HB hb; clear hb hbox hg) | ((with_reducible refine gate_dst (N := 3) rfl ?_); refine bx_ 3 #[.bool a1_0, .slice A1_1 l1_1.length c1_1, .int .i64 a1_2] 26 ?_; intro gb1113 hg w6 hbox hb; have BK1113 := Aside0.mk (hbox); have GW1113 := ge_ hg HB; have GE1113 := ge_ hg HB; have NB1112_1113 := nb_ hg BK1112; have NB1113_1112 := nc_ hg BK1112; replace BK1112 := kq_ BK1112 hb; replace HB := bq_ HB hb; clear hb hbox hg; have hnb7 := NB1112_1113.out; have hnc7 := NB1113_1112.out; obtain ⟨hcz8_0, hcz8_1, hcz8_2, hfz8_0, hfz8_1, hfz8_2⟩ := c3_ BK1112; obtain ⟨hcz9_0, hcz9_1, hcz9_2, hfz9_0, hfz9_1, hfz9_2⟩ := c3_ BK1113) | ((with_reducible refine gate_callee (f := 64) rfl ?_); refine gl_ (some 7) Tryd.func64 #[.agg #[.bool a0_0, .slice A0_1 l0_1.length c0_1, .int .i64 a0_2], .agg #[.bool a1_0, .slice A1_1 l1_1.length c1_1, .int .i64 a1_2]] ?_; (with_reducible refine (dy_Sub.calls k a0_0 (fun k_ => k_ < w.heap.size) _ _ l0_1 a0_2 a1_0 _ _ l1_1 a1_2 t1114 t1115 t1118 _ ?side1 ?side2 ?side3 A3.out ?sidet).mono ?_); (case sidet => exact Kd.C_below HTAB.out (bw_ HB.out)); (case side1 => exact Kd.V_mk HC0_1.out (Kd.F_below (Kd.C_F (Kd.heap_int .u32) HR0_1.out) (bw_ HB.out))); (case side2 => exact kc_ (Kd.C_below HR1_1.out HB.out)); (case side3 => exact HC1_1.out); rintro e w10 ⟨v1116, rfl, ho0, hb⟩; refine ⟨_, rfl, ?_⟩; have HO1117 := Aside0.mk (Kd.R_lower (Kd.R_mono (ok' := fun k_ => True) ho0 (fun _ hk_ => trivial)) (below_size (bw_ HB.out))); replace BK1112 := kq_ BK1112 hb; replace BK1113 := kq_ BK1113 hb; replace HB := bq_ HB hb; (try clear hb); (try clear hb2); (try clear hk); (try clear hi); (try clear ho0); obtain ⟨Ao11, co11, eo11⟩ := Kd.R_slice HO1117.out; subst eo11) | ((with_reducible refine gate_callee (f := 63) rfl ?_); refine gl_ (some 8) Tryd.func63 #[.agg #[.bool t1114, .slice Ao11 t1115.length co11, .int .i64 t1118]] ?_; (with_reducible refine (dy_Sign.calls k t1114 _ _ t1115 t1118 t1119 _ ?side1 ?side2 A4.out ?sidet).mono ?_); (case sidet => exact Kd.C_below HTAB.out (bw_ HB.out)); (case side1 => exact kc_ (Kd.R_reads' HO1117.out).2.2); (case side2 => exact (Kd.R_reads' HO1117.out).2.1); rintro e w12 ⟨rfl, hb⟩; refine ⟨_, rfl, ?_⟩; replace HO1117 := Aside0.mk (Kd.R_below (kr_ HO1117.out) hb); replace BK1112 := kq_ BK1112 hb; replace BK1113 := kq_ BK1113 hb; replace HB := bq_ HB hb; (try clear hb); (try clear hb2); (try clear hk); (try clear hi)))
 go_ret
 exact ⟨rf_, bw_ HB.out⟩

end Go.Proofs.YtkemnoejpbknhaaDoor.PA
