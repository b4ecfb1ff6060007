-- Laid by this work's own program; Lean checks it.
import Derived.Test.YtaookeneeemfbaaDoorPAx0
import Derived.Test.YtaookeneeemfbaaDoorPAx1
import Derived.Test.YtaookeneeemfbaaDoorPAx2
import Derived.Test.YtaookeneeemfbaaDoorPAx3
import Derived.Test.YtaookeneeemfbaaDoorPAx4
import Derived.Test.YtaookeneeemfbaaDoorPAx5
import Derived.Test.YtaookeneeemfbaaDoorPAx6
namespace Go.Proofs.YtaookeneeemfbaaDoor.PA
open Go.RowKit Go.Proofs.YtaookeneeemfbaaDoorW.PrintWords Go.Proofs.YtaookeneeemfbaaDoorW.PrintLast Go.Proofs.YtaookeneeemfbaaDoorW.PrintMore
attribute [local go_sem] max2_int min2_int max_two min_two max_three min_three max_four min_four   -- for this text's walks alone
set_option linter.unusedVariables false
set_option linter.unusedSimpArgs false

attribute [local go_sem ↓ high] isSome_set_
/-! ### dy_own: function 51 -/
set_option maxHeartbeats 8000000 in
set_option maxRecDepth 100000 in
theorem dy_own.calls (k : Nat) (a0_0 : Bool) (A0_1 : Option Addr) (c0_1 : Nat) (l0_1 : List Int) (a0_2 : Int) (r1 : Bool) (r2 : List Int) (r3 : Int) (w : World) (hr0_1 : Kd.C (Kd.int .u32) w A0_1 l0_1.length l0_1) (hc0_1 : l0_1.length ≤ c0_1) (h : dy_own.f k a0_0 l0_1 a0_2 = some (r1, r2, r3)) (htab_ : Kd.C (Kd.int .u8) w (some ⟨0, 0, none⟩) 32 tz32tab) :
  Calls Tryd.prog 51 #[.agg #[.bool a0_0, .slice A0_1 l0_1.length c0_1, .int .i64 a0_2]] w fun e w' => ∃ v1_ : Value, e = .returned (.agg #[.bool r1, v1_, .int .i64 r3]) ∧ Kd.R (Kd.int .u32) 51 w' w.heap.size (fun _ => True) v1_ r2 ∧ Below w.heap.size w w' := by
 have HTAB := Aside0.mk htab_
 clear htab_
 have hu27 := Tryd.underlying27
 have hu24 := Tryd.underlying24
 have HR0_1 := Aside0.mk hr0_1
 have HC0_1 := Aside0.mk hc0_1
 clear hr0_1 hc0_1
 have HB := Aside0.mk (Below.refl w.heap.size w)
 have H : ((dy_Make.f k a0_0 l0_1 a0_2).bind fun bt311 => (some (bt311.1, bt311.2.1, bt311.2.2))) = some (r1, r2, r3) := h
 clear h
 replace H := Option.bind_eq_some_iff.mp H
 obtain ⟨⟨t311, t312, t315⟩, A20, H⟩ := H
 (try dsimp only at H)
 have A2 := Aside0.mk A20
 clear A20
 simp only [Option.some.injEq, Prod.mk.injEq] at H
 obtain ⟨rfl, rfl, rfl⟩ := H
 go_enter Tryd.func51, Tryd.ntmps51
 go_wp2_with (first | ((with_reducible refine gate_dst (N := 1) rfl ?_); refine bx_ 1 #[.bool a0_0, .slice A0_1 l0_1.length c0_1, .int .i64 a0_2] 27 ?_; intro gb309 hg w3 hbox hb; have BK309 := Aside0.mk (hbox); have GW309 := ge_ hg HB; have GE309 := ge_ hg HB; replace HB := bq_ HB hb; clear hb hbox hg) | ((with_reducible refine gate_dst (N := 2) rfl ?_); refine bx_ 2 #[.bool false, .slice none 0 0, .int .i64 0] 27 ?_; intro gb310 hg w4 hbox hb; have BK310 := Aside0.mk (hbox); have GW310 := ge_ hg HB; have GE310 := ge_ hg HB; have NB309_310 := nb_ hg BK309; have NB310_309 := nc_ hg BK309; replace BK309 := kq_ BK309 hb; replace HB := bq_ HB hb; clear hb hbox hg; have hnb5 := NB309_310.out; have hnc5 := NB310_309.out; obtain ⟨hcz6_0, hcz6_1, hcz6_2, hfz6_0, hfz6_1, hfz6_2⟩ := c3_ BK309) | ((with_reducible refine gate_callee (f := 10) rfl ?_); refine gl_ (some 7) Tryd.func10 #[.agg #[.bool a0_0, .slice A0_1 l0_1.length c0_1], .int .i64 a0_2] ?_; (with_reducible refine (dy_Make.calls k a0_0 _ _ l0_1 a0_2 t311 t312 t315 _ ?side1 ?side2 A2.out ?sidet).mono ?_); (case sidet => exact Kd.C_below HTAB.out (bw_ HB.out)); (case side1 => exact kc_ (Kd.C_below HR0_1.out HB.out)); (case side2 => exact HC0_1.out); rintro e w7 ⟨v313, rfl, ho0, hb⟩; refine ⟨_, rfl, ?_⟩; have HO314 := Aside0.mk (Kd.R_lower ho0 (below_size (bw_ HB.out))); replace BK309 := kq_ BK309 hb; replace BK310 := kq_ BK310 hb; replace HB := bq_ HB hb; (try clear hb); (try clear hb2); (try clear hk); (try clear hi); (try clear ho0); obtain ⟨hcz8_0, hcz8_1, hcz8_2, hfz8_0, hfz8_1, hfz8_2⟩ := c3_ BK310; obtain ⟨Ao9, co9, eo9⟩ := Kd.R_slice HO314.out; subst eo9))
 refine bodyPost_ret (results_cell_row rfl _ _ gb310 27 #[.bool t311, .slice Ao9 t312.length co9, .int .i64 t315] (0, 0) _ rfl (by refine kb_ ?_; refine bp_ #[.bool t311, .slice Ao9 t312.length co9, .int .i64 0] 2 ?_; refine bp_ #[.bool t311, .slice none 0 0, .int .i64 0] 1 ?_; refine bp_ #[.bool false, .slice none 0 0, .int .i64 0] 0 ?_; exact BK310.out) Tryd.underlying27 rfl (by kernel_rfl)) rfl ?_
 exact ⟨_, rf_, by (with_reducible repeat (first | apply Kd.R_alloc | apply Kd.R_drewN | apply Kd.R_drew)); exact Kd.R_mono (Kd.R_far (p := ⟨gb310, 2, none⟩) (Kd.R_far (p := ⟨gb310, 1, none⟩) (Kd.R_far (p := ⟨gb310, 0, none⟩) (Kd.R_types HO314.out BK310.out (by decide)) (fun _ hk => hk.2) (.bool t311)) (fun _ hk => hk.2) (.slice Ao9 t312.length co9)) (fun _ hk => hk.2) (.int .i64 t315)) (fun _ hk => trivial), bw_ HB.out⟩

/-! ### dy_Add: function 21 -/
set_option maxHeartbeats 8000000 in
set_option maxRecDepth 100000 in
theorem dy_Add.calls (k : Nat) (A0 : Option Addr) (c0 : Nat) (l0 : List (S27)) (r1 : Bool) (r2 : List Int) (r3 : Int) (w : World) (hr0 : Kd.C k27 w A0 l0.length l0) (hc0 : l0.length ≤ c0) (h : dy_Add.f k l0 = some (r1, r2, r3)) (htab_ : Kd.C (Kd.int .u8) w (some ⟨0, 0, none⟩) 32 tz32tab) :
  Calls Tryd.prog 21 #[.slice A0 l0.length c0] w fun e w' => ∃ v1_ : Value, e = .returned (.agg #[.bool r1, v1_, .int .i64 r3]) ∧ Kd.R (Kd.int .u32) 51 w' w.heap.size (fun _ => True) v1_ r2 ∧ Below w.heap.size w w' := by
 have HTAB := Aside0.mk htab_
 clear htab_
 have hu27 := Tryd.underlying27
 have HR0 := Aside0.mk hr0
 have HC0 := Aside0.mk hc0
 clear hr0 hc0
 have HB := Aside0.mk (Below.refl w.heap.size w)
 have H : (dy_Add.l0 k l0 (l0.length : Int) 0 false ([] : List Int) 0) = some (r1, r2, r3) := h
 clear h
 have H' := Aside0.mk H
 clear H
 go_enter Tryd.func21, Tryd.ntmps21
 go_wp2_with (first | ((with_reducible refine gate_dst (N := 2) rfl ?_); refine bx_ 2 #[.bool false, .slice none 0 0, .int .i64 0] 27 ?_; intro gb316 hg w2 hbox hb; have BK316 := Aside0.mk (hbox); have GW316 := ge_ hg HB; have GE316 := ge_ hg HB; replace HB := bq_ HB hb; clear hb hbox hg) | ((with_reducible refine gate_dst (N := 3) rfl ?_); refine bx_ 3 #[.bool false, .slice none 0 0, .int .i64 0] 27 ?_; intro gb317 hg w3 hbox hb; have BK317 := Aside0.mk (hbox); have GW317 := ge_ hg HB; have GE317 := ge_ hg HB; have NB316_317 := nb_ hg BK316; have NB317_316 := nc_ hg BK316; replace BK316 := kq_ BK316 hb; replace HB := bq_ HB hb; clear hb hbox hg))
 go_loopg [8] k (fun kq v8 w' => ∃ (x8_1 : Int) (x318000_1 : Bool) (x318001_1 : List Int) (x318002_1 : Int) (u318001 : Value), v8 = .int .i64 x8_1 ∧ Aside0 (dy_Add.l0 kq l0 (l0.length : Int) x8_1 x318000_1 x318001_1 x318002_1 = some (r1, r2, r3)) ∧ Aside0 (kq ≤ k) ∧ Aside0 (Kd.V (Kd.int .u32) 51 w' w.heap.size (fun k_ => k_ ≠ gb316 ∧ k_ ≠ gb317) u318001 x318001_1) ∧ Aside0 (w'.heap[gb316]? = some (.cells #[.bool false, (.slice none 0 0), .int .i64 0] 27 (0, 0))) ∧ Aside0 (w'.heap[gb317]? = some (.cells #[.bool x318000_1, u318001, .int .i64 x318002_1] 27 (0, 0))) ∧ Aside0 (Below w.heap.size w w'))
 case atStart => exact ⟨(0), (false), (([] : List Int)), (0), (.slice none 0 0), (by first | rfl | (simp; done) | (simp [*]; done)), H', ⟨Nat.le_refl _⟩, ⟨Kd.V_nil _ _ _ _ _⟩, ⟨kb_ BK316.out⟩, ⟨kb_ BK317.out⟩, ⟨bw_ HB.out⟩⟩
 case round =>
  clear H'
  try clear c2
  try clear p2
  obtain ⟨x8_1, x318000_1, x318001_1, x318002_1, u318001, rfl, HA, HK1, HO_318001, BK316, BK317, HB⟩ := hrel
  cases gk with
  | zero => exact absurd HA.out (by simp [dy_Add.l0])
  | succ k1 =>
   have H := HA.out
   clear HA
   simp only [dy_Add.l0] at H
   by_cases c4 : x8_1 < (l0.length : Int)
   ·rw [if_pos c4] at H
    have c4b0 : decide (x8_1 < (l0.length : Int)) = true := decide_eq_true c4
    clear c4
    by_cases c5 : 0 ≤ x8_1
    ·rw [if_pos c5] at H
     have c5b0 : decide (0 ≤ x8_1) = true := decide_eq_true c5
     clear c5
     by_cases c6 : x8_1 < (l0.length : Int)
     ·rw [if_pos c6] at H
      have c6b0 : decide (x8_1 < (l0.length : Int)) = true := decide_eq_true c6
      clear c6
      replace H := Option.bind_eq_some_iff.mp H
      obtain ⟨⟨t320, t321, t324⟩, A70, H⟩ := H
      (try dsimp only at H)
      have A7 := Aside0.mk A70
      clear A70
      replace H := Option.bind_eq_some_iff.mp H
      obtain ⟨⟨t325, t326, t329⟩, A80, H⟩ := H
      (try dsimp only at H)
      have A8 := Aside0.mk A80
      clear A80
      have H' := Aside0.mk H
      clear H
      have p318 : 0 ≤ (x8_1 : Int) := of_decide_eq_true (by first | (with_reducible assumption) | assumption)
      have q318 : x8_1 < (l0.length : Int) := of_decide_eq_true (by first | (with_reducible assumption) | assumption)
      obtain ⟨ad318, A318_1, c318_1, e318, hx318_0, hx318_1, hx318_2, hl318_1, hi318_1⟩ := at_T27 HR0.out x8_1 p318 q318
      cases e318
      replace hx318_0 := (HB.out.cell (World.block_lt_of_cell? w _ hx318_0)).trans hx318_0
      replace hx318_1 := (HB.out.cell (World.block_lt_of_cell? w _ hx318_1)).trans hx318_1
      replace hx318_2 := (HB.out.cell (World.block_lt_of_cell? w _ hx318_2)).trans hx318_2
      have HR318_1 := Aside0.mk hi318_1
      have HC318_1 := Aside0.mk hl318_1
      clear hi318_1 hl318_1
      replace p318 := eq_true p318
      replace q318 := eq_true q318
      try go_wp2_with (first | ((with_reducible refine gate_dst (N := 5) rfl ?_); refine bx_ 5 #[.bool false, .slice none 0 0, .int .i64 0] 27 ?_; intro gb319 hg w9 hbox hb; have n0_ := Aside0.mk (Kd.V_below (Kd.V_elderB (by (with_reducible repeat (first | apply Kd.V_alloc | apply Kd.V_drewN | apply Kd.V_drew)); exact HO_318001.out) gb319 (Nat.le_of_eq hg.symm)) hb); have n1_ := kq_ BK316 hb; have n2_ := kq_ BK317 hb; have n3_ := bq_ HB hb; have n4_ := Aside0.mk (hbox); have n5_ := ge_ hg HB; have n6_ := ge_ hg HB; have n7_ := nb_ hg BK316; have n8_ := nc_ hg BK316; have n9_ := nb_ hg BK317; have n10_ := nc_ hg BK317; clear HO_318001; clear BK316; clear BK317; clear HB; have HO_318001 := n0_; have BK316 := n1_; have BK317 := n2_; have HB := n3_; have BK319 := n4_; have GW319 := n5_; have GE319 := n6_; have NB316_319 := n7_; have NB319_316 := n8_; have NB317_319 := n9_; have NB319_317 := n10_; clear n0_ n1_ n2_ n3_ n4_ n5_ n6_ n7_ n8_ n9_ n10_; clear hb hbox hg; have hnb10 := NB319_316.out; have hnc10 := NB316_319.out; have hnb11 := NB319_317.out; have hnc11 := NB317_319.out; obtain ⟨hcz12_0, hcz12_1, hcz12_2, hfz12_0, hfz12_1, hfz12_2⟩ := c3_ BK319))
      have n0_ : Aside0 (Kd.V (Kd.int .u32) 51 (((w9.setCell ⟨gb319, 0, none⟩ (.bool ((rd_T27 l0 x8_1).f0.f0))).setCell ⟨gb319, 1, none⟩ (.slice A318_1 ((rd_T27 l0 x8_1).f0.f1).length c318_1)).setCell ⟨gb319, 2, none⟩ (.int .i64 ((rd_T27 l0 x8_1).f1))) w.heap.size (fun k_ => k_ ≠ gb316 ∧ k_ ≠ gb317 ∧ k_ ≠ gb319) u318001 x318001_1) := ⟨by (with_reducible repeat (first | apply Kd.V_alloc | apply Kd.V_drewN | apply Kd.V_drew)); exact Kd.V_mono (Kd.V_far (p := ⟨gb319, 2, none⟩) (Kd.V_far (p := ⟨gb319, 1, none⟩) (Kd.V_far (p := ⟨gb319, 0, none⟩) (Kd.V_mono HO_318001.out (fun k_ hk => (⟨hk, hk.2⟩ : _ ∧ k_ ≠ gb319))) (fun _ hk => hk.2) (.bool ((rd_T27 l0 x8_1).f0.f0))) (fun _ hk => hk.2) (.slice A318_1 ((rd_T27 l0 x8_1).f0.f1).length c318_1)) (fun _ hk => hk.2) (.int .i64 ((rd_T27 l0 x8_1).f1))) (fun _ hk => by first | exact ⟨hk.1.1.1, ⟨hk.1.1.2, hk.1.2⟩⟩ | simp [hk])⟩
      have n1_ : Aside0 ((((w9.setCell ⟨gb319, 0, none⟩ (.bool ((rd_T27 l0 x8_1).f0.f0))).setCell ⟨gb319, 1, none⟩ (.slice A318_1 ((rd_T27 l0 x8_1).f0.f1).length c318_1)).setCell ⟨gb319, 2, none⟩ (.int .i64 ((rd_T27 l0 x8_1).f1))).heap[gb316]? = some (.cells #[.bool false, .slice none 0 0, .int .i64 0] 27 (0, 0))) := ⟨by refine kb_ ?_; refine bf_ NB316_319 ?_; refine bf_ NB316_319 ?_; refine bf_ NB316_319 ?_; exact BK316.out⟩
      have n2_ : Aside0 ((((w9.setCell ⟨gb319, 0, none⟩ (.bool ((rd_T27 l0 x8_1).f0.f0))).setCell ⟨gb319, 1, none⟩ (.slice A318_1 ((rd_T27 l0 x8_1).f0.f1).length c318_1)).setCell ⟨gb319, 2, none⟩ (.int .i64 ((rd_T27 l0 x8_1).f1))).heap[gb317]? = some (.cells #[.bool x318000_1, u318001, .int .i64 x318002_1] 27 (0, 0))) := ⟨by refine kb_ ?_; refine bf_ NB317_319 ?_; refine bf_ NB317_319 ?_; refine bf_ NB317_319 ?_; exact BK317.out⟩
      have n3_ : Aside0 ((((w9.setCell ⟨gb319, 0, none⟩ (.bool ((rd_T27 l0 x8_1).f0.f0))).setCell ⟨gb319, 1, none⟩ (.slice A318_1 ((rd_T27 l0 x8_1).f0.f1).length c318_1)).setCell ⟨gb319, 2, none⟩ (.int .i64 ((rd_T27 l0 x8_1).f1))).heap[gb319]? = some (.cells #[.bool ((rd_T27 l0 x8_1).f0.f0), .slice A318_1 ((rd_T27 l0 x8_1).f0.f1).length c318_1, .int .i64 ((rd_T27 l0 x8_1).f1)] 27 (0, 0))) := ⟨by refine kb_ ?_; refine bp_ #[.bool ((rd_T27 l0 x8_1).f0.f0), .slice A318_1 ((rd_T27 l0 x8_1).f0.f1).length c318_1, .int .i64 0] 2 ?_; refine bp_ #[.bool ((rd_T27 l0 x8_1).f0.f0), .slice none 0 0, .int .i64 0] 1 ?_; refine bp_ #[.bool false, .slice none 0 0, .int .i64 0] 0 ?_; exact BK319.out⟩
      have n4_ : Aside0 (Below w.heap.size w (((w9.setCell ⟨gb319, 0, none⟩ (.bool ((rd_T27 l0 x8_1).f0.f0))).setCell ⟨gb319, 1, none⟩ (.slice A318_1 ((rd_T27 l0 x8_1).f0.f1).length c318_1)).setCell ⟨gb319, 2, none⟩ (.int .i64 ((rd_T27 l0 x8_1).f1)))) := ⟨bw_ HB.out⟩
      (try clear HO_318001)
      (try clear BK316)
      (try clear BK317)
      (try clear BK319)
      (try clear HB)
      generalize (((w9.setCell ⟨gb319, 0, none⟩ (.bool ((rd_T27 l0 x8_1).f0.f0))).setCell ⟨gb319, 1, none⟩ (.slice A318_1 ((rd_T27 l0 x8_1).f0.f1).length c318_1)).setCell ⟨gb319, 2, none⟩ (.int .i64 ((rd_T27 l0 x8_1).f1))) = w13 at n0_ n1_ n2_ n3_ n4_ ⊢
      have HO_318001 := n0_
      have BK316 := n1_
      have BK317 := n2_
      have BK319 := n3_
      have HB := n4_
      clear n0_ n1_ n2_ n3_ n4_
      replace HO_318001 := Aside0.mk (Kd.V_drew HO_318001.out)
      replace BK316 := Aside0.mk (blk_drew BK316.out)
      replace BK317 := Aside0.mk (blk_drew BK317.out)
      replace BK319 := Aside0.mk (blk_drew BK319.out)
      replace HB := Aside0.mk (below_drew1 HB.out)
      refine start_ (n := 5) (S := fun w' => w'.cell? ⟨gb317, 0, none⟩ = some (.bool x318000_1) ∧ w'.cell? ⟨gb317, 1, none⟩ = some (u318001) ∧ w'.cell? ⟨gb317, 2, none⟩ = some (.int .i64 x318002_1) ∧ w'.cell? ⟨gb319, 0, none⟩ = some (.bool ((rd_T27 l0 x8_1).f0.f0)) ∧ w'.cell? ⟨gb319, 1, none⟩ = some (.slice A318_1 ((rd_T27 l0 x8_1).f0.f1).length c318_1) ∧ w'.cell? ⟨gb319, 2, none⟩ = some (.int .i64 ((rd_T27 l0 x8_1).f1))) (ds := [4]) #[false, false, false, false, false] (by kernel_rfl) rfl rfl ⟨(blk_cell BK317.out 0).trans rfl, (blk_cell BK317.out 1).trans rfl, (blk_cell BK317.out 2).trans rfl, (blk_cell BK319.out 0).trans rfl, (blk_cell BK319.out 1).trans rfl, (blk_cell BK319.out 2).trans rfl⟩ (fun hHeld => ?_)
      generalize w13.drew = w14 at HO_318001 BK316 BK317 BK319 HB hHeld ⊢
      refine take_ (i := 0) (N := some 12) (v := ?_) (a' := ?_) #[true, false, false, false, false] rfl rfl (by kernel_rfl) (fun _ _ _ h => h) (Or.inl ⟨by rfl, ?_⟩) hHeld ?_ ?_
      rotate_left
      ·rintro w' ⟨s0, s1, s2, s3, s4, s5⟩
       go_simp
       with_reducible rfl
      rotate_left
      ·exact pt_
      refine take_ (i := 1) (N := some 13) (v := ?_) (a' := ?_) #[true, true, false, false, false] rfl rfl (by kernel_rfl) (fun _ _ _ h => h) (Or.inl ⟨by rfl, ?_⟩) hHeld ?_ ?_
      rotate_left
      ·rintro w' ⟨s0, s1, s2, s3, s4, s5⟩
       go_simp
       with_reducible rfl
      rotate_left
      ·exact pt_
      refine one_ (i := 2) (N := some 14) #[true, true, true, false, false] rfl rfl (by kernel_rfl) (by decide) (fun K hK => ?_)
      refine gs_ Tryd.func46 #[.agg #[.bool ((rd_T27 l0 x8_1).f0.f0), .slice A318_1 ((rd_T27 l0 x8_1).f0.f1).length c318_1, .int .i64 ((rd_T27 l0 x8_1).f1)]] ?_
      with_reducible refine (dy_fair.calls k1 ((rd_T27 l0 x8_1).f0.f0) (fun k_ => k_ < w.heap.size) _ _ ((rd_T27 l0 x8_1).f0.f1) ((rd_T27 l0 x8_1).f1) t320 t321 t324 _ ?side1 A7.out ?sidet).mono ?_
      (case sidet => exact Kd.C_below HTAB.out (bw_ HB.out))
      (case side1 => exact Kd.V_mk HC318_1.out (Kd.F_below (Kd.C_F (Kd.heap_int .u32) HR318_1.out) (bw_ HB.out)))
      rintro e w15 ⟨v322, rfl, ho0, hb⟩
      refine ⟨_, rfl, ?_⟩
      have n0_ := Aside0.mk (Kd.V_below (by (with_reducible repeat (first | apply Kd.V_alloc | apply Kd.V_drewN | apply Kd.V_drew)); exact HO_318001.out) hb)
      have n1_ := Aside0.mk (Kd.V_lower (Kd.V_mono (ok' := fun k_ => k_ ≠ gb316 ∧ k_ ≠ gb317 ∧ k_ ≠ gb319) ho0 (fun k_ hk_ => ⟨Or.elim hk_ (fun hs_ => fun e_ => Nat.not_le.2 hs_ (by rw [e_]; exact GW316.out)) (fun hn_ => (Kd.freshB (g := gb316) (o := .cells #[.bool false, .slice none 0 0, .int .i64 0] 27 (0, 0)) (kb_ BK316.out) k_ hn_)), Or.elim hk_ (fun hs_ => fun e_ => Nat.not_le.2 hs_ (by rw [e_]; exact GW317.out)) (fun hn_ => (Kd.freshB (g := gb317) (o := .cells #[.bool x318000_1, u318001, .int .i64 x318002_1] 27 (0, 0)) (kb_ BK317.out) k_ hn_)), Or.elim hk_ (fun hs_ => fun e_ => Nat.not_le.2 hs_ (by rw [e_]; exact GW319.out)) (fun hn_ => (Kd.freshB (g := gb319) (o := .cells #[.bool ((rd_T27 l0 x8_1).f0.f0), .slice A318_1 ((rd_T27 l0 x8_1).f0.f1).length c318_1, .int .i64 ((rd_T27 l0 x8_1).f1)] 27 (0, 0)) (kb_ BK319.out) k_ hn_))⟩)) (below_size (bw_ HB.out)))
      have n2_ := kq_ BK316 hb
      have n3_ := kq_ BK317 hb
      have n4_ := Aside0.mk (blk_below (g := gb319) (o := .cells #[.bool ((rd_T27 l0 x8_1).f0.f0), .slice A318_1 ((rd_T27 l0 x8_1).f0.f1).length c318_1, .int .i64 ((rd_T27 l0 x8_1).f1)] 27 (0, 0)) (kb_ BK319.out) hb)
      have n5_ := bq_ HB hb
      clear HO_318001
      clear BK316
      clear BK317
      clear BK319
      clear HB
      have HO_318001 := n0_
      have HO323 := n1_
      have BK316 := n2_
      have BK317 := n3_
      have BK319 := n4_
      have HB := n5_
      clear n0_ n1_ n2_ n3_ n4_ n5_
      (try clear hb)
      (try clear hb2)
      (try clear hk)
      (try clear hi)
      (try clear ho0)
      obtain ⟨Ao16, co16, eo16⟩ := Kd.V_slice HO_318001.out
      (first | subst eo16 | (injection eo16 with f1_ f2_ f3_; have f4_ := f1_.symm; have f5_ := f3_.symm; clear f1_ f2_ f3_; subst f4_; subst f5_))
      obtain ⟨Ao17, co17, eo17⟩ := Kd.V_slice HO323.out
      (first | subst eo17 | (injection eo17 with f1_ f2_ f3_; have f4_ := f1_.symm; have f5_ := f3_.symm; clear f1_ f2_ f3_; subst f4_; subst f5_))
      refine hK.out _ _ ⟨(blk_cell BK317.out 0).trans rfl, (blk_cell BK317.out 1).trans rfl, (blk_cell BK317.out 2).trans rfl, (blk_cell BK319.out 0).trans rfl, (blk_cell BK319.out 1).trans rfl, (blk_cell BK319.out 2).trans rfl⟩ (fun hHeld => ?_)
      clear hK K
      refine norm_ (a' := ?_) ?_ ?_
      rotate_left
      ·show Act.put _ (some 14) _ = _
       exact pt_
      refine one_ (i := 3) (N := some 15) #[true, true, true, true, false] rfl rfl (by kernel_rfl) (by decide) (fun K hK => ?_)
      refine gs_ Tryd.func50 #[.agg #[.bool x318000_1, .slice Ao16 x318001_1.length co16, .int .i64 x318002_1], .agg #[.bool t320, .slice Ao17 t321.length co17, .int .i64 t324]] ?_
      with_reducible refine (dy_add.calls k1 x318000_1 (fun k_ => (k_ ≠ gb316 ∧ (k_ ≠ gb317 ∧ k_ ≠ gb319))) _ _ x318001_1 x318002_1 t320 (fun k_ => (k_ ≠ gb316 ∧ (k_ ≠ gb317 ∧ k_ ≠ gb319))) _ _ t321 t324 t325 t326 t329 _ ?side1 ?side2 A8.out ?sidet).mono ?_
      (case sidet => exact Kd.C_below HTAB.out (bw_ HB.out))
      (case side1 => exact HO_318001.out)
      (case side2 => exact HO323.out)
      rintro e w18 ⟨v327, rfl, ho0, hb⟩
      refine ⟨_, rfl, ?_⟩
      have n0_ := Aside0.mk (Kd.V_below (by (with_reducible repeat (first | apply Kd.V_alloc | apply Kd.V_drewN | apply Kd.V_drew)); exact HO_318001.out) hb)
      have n1_ := Aside0.mk (Kd.V_below (by (with_reducible repeat (first | apply Kd.V_alloc | apply Kd.V_drewN | apply Kd.V_drew)); exact HO323.out) hb)
      have n2_ := Aside0.mk (Kd.V_lower (Kd.V_mono (ok' := fun k_ => k_ ≠ gb316 ∧ k_ ≠ gb317 ∧ k_ ≠ gb319) ho0 (fun k_ hk_ => ⟨Or.elim hk_ (fun hs_ => Or.elim hs_ (fun hs_ => hs_.1) (fun hs_ => hs_.1)) (fun hn_ => (Kd.freshB (g := gb316) (o := .cells #[.bool false, .slice none 0 0, .int .i64 0] 27 (0, 0)) (kb_ BK316.out) k_ hn_)), Or.elim hk_ (fun hs_ => Or.elim hs_ (fun hs_ => hs_.2.1) (fun hs_ => hs_.2.1)) (fun hn_ => (Kd.freshB (g := gb317) (o := .cells #[.bool x318000_1, .slice Ao16 x318001_1.length co16, .int .i64 x318002_1] 27 (0, 0)) (kb_ BK317.out) k_ hn_)), Or.elim hk_ (fun hs_ => Or.elim hs_ (fun hs_ => hs_.2.2) (fun hs_ => hs_.2.2)) (fun hn_ => (Kd.freshB (g := gb319) (o := .cells #[.bool ((rd_T27 l0 x8_1).f0.f0), .slice A318_1 ((rd_T27 l0 x8_1).f0.f1).length c318_1, .int .i64 ((rd_T27 l0 x8_1).f1)] 27 (0, 0)) (kb_ BK319.out) k_ hn_))⟩)) (below_size (bw_ HB.out)))
      have n3_ := kq_ BK316 hb
      have n4_ := kq_ BK317 hb
      have n5_ := Aside0.mk (blk_below (g := gb319) (o := .cells #[.bool ((rd_T27 l0 x8_1).f0.f0), .slice A318_1 ((rd_T27 l0 x8_1).f0.f1).length c318_1, .int .i64 ((rd_T27 l0 x8_1).f1)] 27 (0, 0)) (kb_ BK319.out) hb)
      have n6_ := bq_ HB hb
      clear HO_318001
      clear HO323
      clear BK316
      clear BK317
      clear BK319
      clear HB
      have HO_318001 := n0_
      have HO323 := n1_
      have HO328 := n2_
      have BK316 := n3_
      have BK317 := n4_
      have BK319 := n5_
      have HB := n6_
      clear n0_ n1_ n2_ n3_ n4_ n5_ n6_
      (try clear hb)
      (try clear hb2)
      (try clear hk)
      (try clear hi)
      (try clear ho0)
      obtain ⟨Ao20, co20, eo20⟩ := Kd.V_slice HO328.out
      (first | subst eo20 | (injection eo20 with f1_ f2_ f3_; have f4_ := f1_.symm; have f5_ := f3_.symm; clear f1_ f2_ f3_; subst f4_; subst f5_))
      refine hK.out _ _ ⟨(blk_cell BK317.out 0).trans rfl, (blk_cell BK317.out 1).trans rfl, (blk_cell BK317.out 2).trans rfl, (blk_cell BK319.out 0).trans rfl, (blk_cell BK319.out 1).trans rfl, (blk_cell BK319.out 2).trans rfl⟩ (fun hHeld => ?_)
      clear hK K
      refine norm_ (a' := ?_) ?_ ?_
      rotate_left
      ·show Act.put _ (some 15) _ = _
       exact pt_
      refine last_ (i := 4) (N := none) #[true, true, true, true, true] rfl rfl (by kernel_rfl) (by decide) (fun K hK => ?_)
      have hs19 : w18.cell? ⟨gb317, 0, none⟩ = some (.bool x318000_1) := (blk_cell BK317.out 0).trans rfl
      have hfs19 := fz_ BK317 0
      have hns19_0 := NB316_317.out
      have hns19_2 := NB319_317.out
      have hms19_0 := NB317_316.out
      have hms19_2 := NB317_319.out
      have hs21 : w18.cell? ⟨gb317, 1, none⟩ = some (.slice Ao16 x318001_1.length co16) := (blk_cell BK317.out 1).trans rfl
      have hfs21 := fz_ BK317 1
      have hns21_0 := NB316_317.out
      have hns21_2 := NB319_317.out
      have hms21_0 := NB317_316.out
      have hms21_2 := NB317_319.out
      have hs22 : w18.cell? ⟨gb317, 2, none⟩ = some (.int .i64 x318002_1) := (blk_cell BK317.out 2).trans rfl
      have hfs22 := fz_ BK317 2
      have hns22_0 := NB316_317.out
      have hns22_2 := NB319_317.out
      have hms22_0 := NB317_316.out
      have hms22_2 := NB317_319.out
      refine skip_ (w1 := ?_) (by rfl) rfl ?_ ?_
      rotate_left
      ·go_simp
       rfl
      refine hK.out _ _ ?_
      clear hK K
      refine done_ (by kernel_rfl) ?_
      try go_wp2
      go_roundg k1
      case measure => have := HK1.out; omega
      case rel => exact ⟨(wrap64 (x8_1 + 1)), (t325), (t326), (t329), (.slice Ao20 t326.length co20), (by first | rfl | (simp; done) | (simp [*]; done)), H', ⟨by have := HK1.out; omega⟩, ⟨by (with_reducible repeat (first | apply Kd.V_alloc | apply Kd.V_drewN | apply Kd.V_drew)); exact Kd.V_mono (Kd.V_far (p := ⟨gb317, 2, none⟩) (Kd.V_far (p := ⟨gb317, 1, none⟩) (Kd.V_far (p := ⟨gb317, 0, none⟩) (Kd.V_mono HO328.out (fun k_ hk => (⟨hk, hk.2.1⟩ : _ ∧ k_ ≠ gb317))) (fun _ hk => hk.2) (.bool t325)) (fun _ hk => hk.2) (.slice Ao20 t326.length co20)) (fun _ hk => hk.2) (.int .i64 t329)) (fun _ hk => by first | exact ⟨hk.1.1, hk.1.2.1⟩ | (simp only [ob_map] at hk ⊢; exact ⟨hk.1.1, hk.1.2.1⟩))⟩, ⟨by refine kb_ ?_; refine bf_ NB316_317 ?_; refine bf_ NB316_317 ?_; refine bf_ NB316_317 ?_; exact BK316.out⟩, ⟨by refine kb_ ?_; refine bp_ #[.bool t325, .slice Ao20 t326.length co20, .int .i64 x318002_1] 2 ?_; refine bp_ #[.bool t325, .slice Ao16 x318001_1.length co16, .int .i64 x318002_1] 1 ?_; refine bp_ #[.bool x318000_1, .slice Ao16 x318001_1.length co16, .int .i64 x318002_1] 0 ?_; exact BK317.out⟩, ⟨bw_ HB.out⟩⟩
     ·rw [if_neg c6] at H
      exact absurd H (by simp)
    ·rw [if_neg c5] at H
     exact absurd H (by simp)
   ·rw [if_neg c4] at H
    have c4b0 : decide (x8_1 < (l0.length : Int)) = false := decide_eq_false c4
    clear c4
    replace H := Option.bind_eq_some_iff.mp H
    obtain ⟨⟨t330, t331, t334⟩, A230, H⟩ := H
    (try dsimp only at H)
    have A23 := Aside0.mk A230
    clear A230
    simp only [Option.some.injEq, Prod.mk.injEq] at H
    obtain ⟨rfl, rfl, rfl⟩ := H
    have hnb24 := NB317_316.out
    have hnc24 := NB316_317.out
    obtain ⟨hcz25_0, hcz25_1, hcz25_2, hfz25_0, hfz25_1, hfz25_2⟩ := c3_ BK317
    obtain ⟨Ao26, co26, eo26⟩ := Kd.V_slice HO_318001.out
    subst eo26
    go_wp2_with (first | ((with_reducible refine gate_callee (f := 51) rfl ?_); refine gl_ (some 18) Tryd.func51 #[.agg #[.bool x318000_1, .slice Ao26 x318001_1.length co26, .int .i64 x318002_1]] ?_; (with_reducible refine (dy_own.calls k1 x318000_1 _ _ x318001_1 x318002_1 t330 t331 t334 _ ?side1 ?side2 A23.out ?sidet).mono ?_); (case sidet => exact Kd.C_below HTAB.out (bw_ HB.out)); (case side1 => exact kc_ (Kd.V_reads' HO_318001.out).2.2); (case side2 => exact (Kd.V_reads' HO_318001.out).2.1); rintro e w27 ⟨v332, rfl, ho0, hb⟩; refine ⟨_, rfl, ?_⟩; have n0_ := Aside0.mk (Kd.V_elder' (by (with_reducible repeat (first | apply Kd.V_alloc | apply Kd.V_drewN | apply Kd.V_drew)); exact HO_318001.out) (Kd.R_base ho0) hb); have n1_ := Aside0.mk (Kd.R_lower ho0 (below_size (bw_ HB.out))); have n2_ := kq_ BK316 hb; have n3_ := kq_ BK317 hb; have n4_ := bq_ HB hb; clear HO_318001; clear BK316; clear BK317; clear HB; have HO_318001 := n0_; have HO333 := n1_; have BK316 := n2_; have BK317 := n3_; have HB := n4_; clear n0_ n1_ n2_ n3_ n4_; (try clear hb); (try clear hb2); (try clear hk); (try clear hi); (try clear ho0); obtain ⟨hcz28_0, hcz28_1, hcz28_2, hfz28_0, hfz28_1, hfz28_2⟩ := c3_ BK316; obtain ⟨Ao29, co29, eo29⟩ := Kd.R_slice HO333.out; subst eo29))
    refine bodyPost_ret (results_cell_row rfl _ _ gb316 27 #[.bool t330, .slice Ao29 t331.length co29, .int .i64 t334] (0, 0) _ rfl (by refine kb_ ?_; refine bp_ #[.bool t330, .slice Ao29 t331.length co29, .int .i64 0] 2 ?_; refine bp_ #[.bool t330, .slice none 0 0, .int .i64 0] 1 ?_; refine bp_ #[.bool false, .slice none 0 0, .int .i64 0] 0 ?_; exact BK316.out) Tryd.underlying27 rfl (by kernel_rfl)) rfl ?_
    exact ⟨_, rf_, by (with_reducible repeat (first | apply Kd.R_alloc | apply Kd.R_drewN | apply Kd.R_drew)); exact Kd.R_mono (Kd.R_far (p := ⟨gb316, 2, none⟩) (Kd.R_far (p := ⟨gb316, 1, none⟩) (Kd.R_far (p := ⟨gb316, 0, none⟩) (Kd.R_types HO333.out BK316.out (by decide)) (fun _ hk => hk.2) (.bool t330)) (fun _ hk => hk.2) (.slice Ao29 t331.length co29)) (fun _ hk => hk.2) (.int .i64 t334)) (fun _ hk => trivial), bw_ HB.out⟩

/-! ### dy_Floor: function 23 -/
theorem dy_Floor.tab3 : rtab .any (opsOf Tryd.f23 3) = dy_Floor.T3 := by kernel_rfl
theorem dy_Floor.bits3 : waitsOk dy_Floor.T3.2 dy_Floor.B3 = true := by kernel_rfl
set_option maxHeartbeats 8000000 in
set_option maxRecDepth 100000 in
theorem dy_Floor.calls (k : Nat) (a0_0 : Bool) (A0_1 : Option Addr) (c0_1 : Nat) (l0_1 : List Int) (a0_2 : Int) (r1 : Bool) (r2 : List Int) (w : World) (hr0_1 : Kd.C (Kd.int .u32) w A0_1 l0_1.length l0_1) (hc0_1 : l0_1.length ≤ c0_1) (h : dy_Floor.f k a0_0 l0_1 a0_2 = some (r1, r2)) (htab_ : Kd.C (Kd.int .u8) w (some ⟨0, 0, none⟩) 32 tz32tab) :
  Calls Tryd.prog 23 #[.agg #[.bool a0_0, .slice A0_1 l0_1.length c0_1, .int .i64 a0_2]] w fun e w' => ∃ v1_ : Value, e = .returned (.agg #[.bool r1, v1_]) ∧ Kd.R (Kd.int .u32) 51 w' w.heap.size (fun _ => True) v1_ r2 ∧ Below w.heap.size w w' := by
 have HTAB := Aside0.mk htab_
 clear htab_
 have hu27 := Tryd.underlying27
 have hu24 := Tryd.underlying24
 have HR0_1 := Aside0.mk hr0_1
 have HC0_1 := Aside0.mk hc0_1
 clear hr0_1 hc0_1
 have HB := Aside0.mk (Below.refl w.heap.size w)
 have H : ((dy_fair.f k a0_0 l0_1 a0_2).bind fun bt337 => (if bt337.2.2 ≥ 0 then ((nat_Shl.f k bt337.2.1 bt337.2.2).bind fun t342 => ((whole_Make.f k bt337.1 t342).bind fun bt345 => (some (bt345.1, bt345.2)))) else ((nat_Shr.f k bt337.2.1 (wrap64 (-bt337.2.2))).bind fun t349 => (if bt337.1 = true then ((nat_Add.f k t349 (([1] : List Int))).bind fun t355 => ((whole_Make.f k bt337.1 t355).bind fun bt358 => (some (bt358.1, bt358.2)))) else ((whole_Make.f k bt337.1 t349).bind fun bt362 => (some (bt362.1, bt362.2))))))) = some (r1, r2) := h
 clear h
 replace H := Option.bind_eq_some_iff.mp H
 obtain ⟨⟨t337, t338, t341⟩, A20, H⟩ := H
 (try dsimp only at H)
 have A2 := Aside0.mk A20
 clear A20
 by_cases c3 : t341 ≥ 0
 ·rw [if_pos c3] at H
  have c3b0 : decide (0 ≤ t341) = true := decide_eq_true c3
  clear c3
  replace H := Option.bind_eq_some_iff.mp H
  obtain ⟨t342, A40, H⟩ := H
  (try dsimp only at H)
  have A4 := Aside0.mk A40
  clear A40
  replace H := Option.bind_eq_some_iff.mp H
  obtain ⟨⟨t345, t346⟩, A50, H⟩ := H
  (try dsimp only at H)
  have A5 := Aside0.mk A50
  clear A50
  simp only [Option.some.injEq, Prod.mk.injEq] at H
  obtain ⟨rfl, rfl⟩ := H
  go_enter Tryd.func23, Tryd.ntmps23
  try go_wp2_with (first | ((with_reducible refine gate_dst (N := 1) rfl ?_); refine bx_ 1 #[.bool a0_0, .slice A0_1 l0_1.length c0_1, .int .i64 a0_2] 27 ?_; intro gb335 hg w6 hbox hb; have BK335 := Aside0.mk (hbox); have GW335 := ge_ hg HB; have GE335 := ge_ hg HB; replace HB := bq_ HB hb; clear hb hbox hg) | ((with_reducible refine gate_dst (N := 2) rfl ?_); refine bx_ 2 #[.bool false, .slice none 0 0] 24 ?_; intro gb336 hg w7 hbox hb; have BK336 := Aside0.mk (hbox); have GW336 := ge_ hg HB; have GE336 := ge_ hg HB; have NB335_336 := nb_ hg BK335; have NB336_335 := nc_ hg BK335; replace BK335 := kq_ BK335 hb; replace HB := bq_ HB hb; clear hb hbox hg; have hnb8 := NB335_336.out; have hnc8 := NB336_335.out; obtain ⟨hcz9_0, hcz9_1, hcz9_2, hfz9_0, hfz9_1, hfz9_2⟩ := c3_ BK335) | ((with_reducible refine gate_callee (f := 46) rfl ?_); refine gl_ (some 5) Tryd.func46 #[.agg #[.bool a0_0, .slice A0_1 l0_1.length c0_1, .int .i64 a0_2]] ?_; (with_reducible refine (dy_fair.calls k a0_0 (fun k_ => k_ < w.heap.size) _ _ l0_1 a0_2 t337 t338 t341 _ ?side1 A2.out ?sidet).mono ?_); (case sidet => exact Kd.C_below HTAB.out (bw_ HB.out)); (case side1 => exact Kd.V_mk HC0_1.out (Kd.F_below (Kd.C_F (Kd.heap_int .u32) HR0_1.out) (bw_ HB.out))); rintro e w10 ⟨v339, rfl, ho0, hb⟩; refine ⟨_, rfl, ?_⟩; have n0_ := Aside0.mk (Kd.V_lower (Kd.V_mono (ok' := fun k_ => k_ ≠ gb335 ∧ k_ ≠ gb336) ho0 (fun k_ hk_ => ⟨Or.elim hk_ (fun hs_ => fun e_ => Nat.not_le.2 hs_ (by rw [e_]; exact GW335.out)) (fun hn_ => (Kd.freshB (g := gb335) (o := .cells #[.bool a0_0, .slice A0_1 l0_1.length c0_1, .int .i64 a0_2] 27 (0, 0)) (kb_ BK335.out) k_ hn_)), Or.elim hk_ (fun hs_ => fun e_ => Nat.not_le.2 hs_ (by rw [e_]; exact GW336.out)) (fun hn_ => (Kd.freshB (g := gb336) (o := .cells #[.bool false, .slice none 0 0] 24 (0, 0)) (kb_ BK336.out) k_ hn_))⟩)) (below_size (bw_ HB.out))); have n1_ := kq_ BK335 hb; have n2_ := kq_ BK336 hb; have n3_ := bq_ HB hb; clear BK335; clear BK336; clear HB; have HO340 := n0_; have BK335 := n1_; have BK336 := n2_; have HB := n3_; clear n0_ n1_ n2_ n3_; (try clear hb); (try clear hb2); (try clear hk); (try clear hi); (try clear ho0); obtain ⟨hcz11_0, hcz11_1, hcz11_2, hfz11_0, hfz11_1, hfz11_2⟩ := c3_ BK335; obtain ⟨Ao12, co12, eo12⟩ := Kd.V_slice HO340.out; subst eo12))
  have n0_ : Aside0 (Kd.V (Kd.int .u32) 51 (((w10.setCell ⟨gb335, 0, none⟩ (.bool t337)).setCell ⟨gb335, 1, none⟩ (.slice Ao12 t338.length co12)).setCell ⟨gb335, 2, none⟩ (.int .i64 t341)) w.heap.size (fun k_ => k_ ≠ gb335 ∧ k_ ≠ gb336) (.slice Ao12 t338.length co12) t338) := ⟨by (with_reducible repeat (first | apply Kd.V_alloc | apply Kd.V_drewN | apply Kd.V_drew)); exact Kd.V_mono (Kd.V_far (p := ⟨gb335, 2, none⟩) (Kd.V_far (p := ⟨gb335, 1, none⟩) (Kd.V_far (p := ⟨gb335, 0, none⟩) (Kd.V_mono HO340.out (fun k_ hk => (⟨hk, hk.1⟩ : _ ∧ k_ ≠ gb335))) (fun _ hk => hk.2) (.bool t337)) (fun _ hk => hk.2) (.slice Ao12 t338.length co12)) (fun _ hk => hk.2) (.int .i64 t341)) (fun _ hk => by first | exact ⟨hk.1.1, hk.1.2⟩ | (simp only [ob_map] at hk ⊢; exact ⟨hk.1.1, hk.1.2⟩))⟩
  have n1_ : Aside0 ((((w10.setCell ⟨gb335, 0, none⟩ (.bool t337)).setCell ⟨gb335, 1, none⟩ (.slice Ao12 t338.length co12)).setCell ⟨gb335, 2, none⟩ (.int .i64 t341)).heap[gb335]? = some (.cells #[.bool t337, .slice Ao12 t338.length co12, .int .i64 t341] 27 (0, 0))) := ⟨by refine kb_ ?_; refine bp_ #[.bool t337, .slice Ao12 t338.length co12, .int .i64 a0_2] 2 ?_; refine bp_ #[.bool t337, .slice A0_1 l0_1.length c0_1, .int .i64 a0_2] 1 ?_; refine bp_ #[.bool a0_0, .slice A0_1 l0_1.length c0_1, .int .i64 a0_2] 0 ?_; exact BK335.out⟩
  have n2_ : Aside0 ((((w10.setCell ⟨gb335, 0, none⟩ (.bool t337)).setCell ⟨gb335, 1, none⟩ (.slice Ao12 t338.length co12)).setCell ⟨gb335, 2, none⟩ (.int .i64 t341)).heap[gb336]? = some (.cells #[.bool false, .slice none 0 0] 24 (0, 0))) := ⟨by refine kb_ ?_; refine bf_ NB336_335 ?_; refine bf_ NB336_335 ?_; refine bf_ NB336_335 ?_; exact BK336.out⟩
  have n3_ : Aside0 (Below w.heap.size w (((w10.setCell ⟨gb335, 0, none⟩ (.bool t337)).setCell ⟨gb335, 1, none⟩ (.slice Ao12 t338.length co12)).setCell ⟨gb335, 2, none⟩ (.int .i64 t341))) := ⟨bw_ HB.out⟩
  (try clear HO340)
  (try clear BK335)
  (try clear BK336)
  (try clear HB)
  generalize (((w10.setCell ⟨gb335, 0, none⟩ (.bool t337)).setCell ⟨gb335, 1, none⟩ (.slice Ao12 t338.length co12)).setCell ⟨gb335, 2, none⟩ (.int .i64 t341)) = w13 at n0_ n1_ n2_ n3_ ⊢
  have HO340 := n0_
  have BK335 := n1_
  have BK336 := n2_
  have HB := n3_
  clear n0_ n1_ n2_ n3_
  replace HO340 := Aside0.mk (Kd.V_drew HO340.out)
  replace BK335 := Aside0.mk (blk_drew BK335.out)
  replace BK336 := Aside0.mk (blk_drew BK336.out)
  replace HB := Aside0.mk (below_drew1 HB.out)
  refine start_ (n := 11) (S := fun w' => w'.cell? ⟨gb335, 0, none⟩ = some (.bool t337) ∧ w'.cell? ⟨gb335, 1, none⟩ = some (.slice Ao12 t338.length co12) ∧ w'.cell? ⟨gb335, 2, none⟩ = some (.int .i64 t341)) (ds := []) #[false, false, false, false, false, false, false, false, false, false, false] (by kernel_rfl) rfl rfl ⟨(blk_cell BK335.out 0).trans rfl, (blk_cell BK335.out 1).trans rfl, (blk_cell BK335.out 2).trans rfl⟩ (fun hHeld => ?_); refine with_tabW dy_Floor.tab3 dy_Floor.bits3 (fun HT_ HW_ => ?_)
  generalize w13.drew = w14 at HO340 BK335 BK336 HB hHeld ⊢
  refine pure_ (i := 0) (N := some 9) (v := ?_) (a' := ?_) #[true, false, false, false, false, false, false, false, false, false, false] rfl rfl (any_of HT_.out (by kernel_rfl)) (fun _ _ _ h => h) (Or.inl ⟨by rfl, ?_⟩) ?_ ?_
  rotate_left
  ·intro w'
   go_simp
   with_reducible rfl
  rotate_left
  ·exact pt_
  refine pure_ (i := 1) (N := some 10) (v := ?_) (a' := ?_) #[true, true, false, false, false, false, false, false, false, false, false] rfl rfl (any_of HT_.out (by kernel_rfl)) (fun _ _ _ h => h) (Or.inl ⟨by rfl, ?_⟩) ?_ ?_
  rotate_left
  ·intro w'
   go_simp
   with_reducible rfl
  rotate_left
  ·exact pt_
  refine pure_ (i := 3) (N := some 12) (v := ?_) (a' := ?_) #[true, true, false, true, false, false, false, false, false, false, false] rfl rfl (any_of HT_.out (by kernel_rfl)) (fun _ _ _ h => h) (Or.inl ⟨by rfl, ?_⟩) ?_ ?_
  rotate_left
  ·intro w'
   go_simp
   with_reducible rfl
  rotate_left
  ·exact pt_
  refine pure_ (i := 4) (N := some 13) (v := ?_) (a' := ?_) #[true, true, false, true, true, false, false, false, false, false, false] rfl rfl (any_of HT_.out (by kernel_rfl)) (fun _ _ _ h => h) (Or.inl ⟨by rfl, ?_⟩) ?_ ?_
  rotate_left
  ·intro w'
   go_simp
   with_reducible rfl
  rotate_left
  ·exact pt_
  refine pure_ (i := 6) (N := some 15) (v := ?_) (a' := ?_) #[true, true, false, true, true, false, true, false, false, false, false] rfl rfl (any_of HT_.out (by kernel_rfl)) (fun _ _ _ h => h) (Or.inl ⟨by rfl, ?_⟩) ?_ ?_
  rotate_left
  ·intro w'
   go_simp
   with_reducible rfl
  rotate_left
  ·exact pt_
  refine take_ (i := 2) (N := some 11) (v := ?_) (a' := ?_) #[true, true, true, true, true, false, true, false, false, false, false] rfl rfl (take_ofW HT_.out HW_.out (by kernel_rfl)) (fun _ _ _ h => h) (Or.inl ⟨by rfl, ?_⟩) hHeld ?_ ?_
  rotate_left
  ·rintro w' ⟨s0, s1, s2⟩
   go_simp
   with_reducible rfl
  rotate_left
  ·exact pt_
  refine take_ (i := 5) (N := some 14) (v := ?_) (a' := ?_) #[true, true, true, true, true, true, true, false, false, false, false] rfl rfl (take_ofW HT_.out HW_.out (by kernel_rfl)) (fun _ _ _ h => h) (Or.inl ⟨by rfl, ?_⟩) hHeld ?_ ?_
  rotate_left
  ·rintro w' ⟨s0, s1, s2⟩
   go_simp
   with_reducible rfl
  rotate_left
  ·exact pt_
  refine take_ (i := 7) (N := some 16) (v := ?_) (a' := ?_) #[true, true, true, true, true, true, true, true, false, false, false] rfl rfl (take_ofW HT_.out HW_.out (by kernel_rfl)) (fun _ _ _ h => h) (Or.inl ⟨by rfl, ?_⟩) hHeld ?_ ?_
  rotate_left
  ·rintro w' ⟨s0, s1, s2⟩
   go_simp
   with_reducible rfl
  rotate_left
  ·exact pt_
  refine one_ (i := 8) (N := some 17) #[true, true, true, true, true, true, true, true, true, false, false] rfl rfl (one_of HT_.out (by kernel_rfl)) (by decide) (fun K hK => ?_)
  refine gs_ Tryd.func52 #[.slice Ao12 t338.length co12, .int .i64 t341] ?_
  with_reducible refine (nat_Shl.calls k _ _ t338 t341 t342 _ ?side1 ?side2 A4.out).mono ?_
  (case side1 => exact kc_ (Kd.V_reads' HO340.out).2.2)
  (case side2 => exact (Kd.V_reads' HO340.out).2.1)
  rintro e w15 ⟨v343, rfl, ho0, hb⟩
  refine ⟨_, rfl, ?_⟩
  have n0_ := Aside0.mk (Kd.V_elder' (by (with_reducible repeat (first | apply Kd.V_alloc | apply Kd.V_drewN | apply Kd.V_drew)); exact HO340.out) (Kd.R_base ho0) hb)
  have n1_ := Aside0.mk (Kd.R_lower ho0 (below_size (bw_ HB.out)))
  have n2_ := kq_ BK335 hb
  have n3_ := kq_ BK336 hb
  have n4_ := bq_ HB hb
  clear HO340
  clear BK335
  clear BK336
  clear HB
  have HO340 := n0_
  have HO344 := n1_
  have BK335 := n2_
  have BK336 := n3_
  have HB := n4_
  clear n0_ n1_ n2_ n3_ n4_
  (try clear hb)
  (try clear hb2)
  (try clear hk)
  (try clear hi)
  (try clear ho0)
  obtain ⟨Ao16, co16, eo16⟩ := Kd.R_slice HO344.out
  (first | subst eo16 | (injection eo16 with f1_ f2_ f3_; have f4_ := f1_.symm; have f5_ := f3_.symm; clear f1_ f2_ f3_; subst f4_; subst f5_))
  refine hK.out _ _ ⟨(blk_cell BK335.out 0).trans rfl, (blk_cell BK335.out 1).trans rfl, (blk_cell BK335.out 2).trans rfl⟩ (fun hHeld => ?_)
  clear hK K
  refine norm_ (a' := ?_) ?_ ?_
  rotate_left
  ·show Act.put _ (some 17) _ = _
   exact pt_
  refine one_ (i := 9) (N := some 18) #[true, true, true, true, true, true, true, true, true, true, false] rfl rfl (one_of HT_.out (by kernel_rfl)) (by decide) (fun K hK => ?_)
  refine gs_ Tryd.func41 #[.bool t337, .slice Ao16 t342.length co16] ?_
  with_reducible refine (whole_Make.calls k t337 _ _ t342 t345 t346 _ ?side1 ?side2 A5.out).mono ?_
  (case side1 => exact kc_ (Kd.R_reads' HO344.out).2.2)
  (case side2 => exact (Kd.R_reads' HO344.out).2.1)
  rintro e w17 ⟨v347, rfl, ho0, hb⟩
  refine ⟨_, rfl, ?_⟩
  have n0_ := Aside0.mk (Kd.V_elder' (by (with_reducible repeat (first | apply Kd.V_alloc | apply Kd.V_drewN | apply Kd.V_drew)); exact HO340.out) (Kd.R_base ho0) hb)
  have n1_ := Aside0.mk (Kd.R_elder' (kr_ HO344.out) (Kd.R_base ho0) hb)
  have n2_ := Aside0.mk (Kd.R_lower (Kd.R_new' ho0 (Kd.R_lt (kr_ HO344.out))) (below_size (bw_ HB.out)))
  have n3_ := kq_ BK335 hb
  have n4_ := kq_ BK336 hb
  have n5_ := bq_ HB hb
  clear HO340
  clear HO344
  clear BK335
  clear BK336
  clear HB
  have HO340 := n0_
  have HO344 := n1_
  have HO348 := n2_
  have BK335 := n3_
  have BK336 := n4_
  have HB := n5_
  clear n0_ n1_ n2_ n3_ n4_ n5_
  (try clear hb)
  (try clear hb2)
  (try clear hk)
  (try clear hi)
  (try clear ho0)
  obtain ⟨Ao19, co19, eo19⟩ := Kd.R_slice HO348.out
  (first | subst eo19 | (injection eo19 with f1_ f2_ f3_; have f4_ := f1_.symm; have f5_ := f3_.symm; clear f1_ f2_ f3_; subst f4_; subst f5_))
  refine hK.out _ _ ⟨(blk_cell BK335.out 0).trans rfl, (blk_cell BK335.out 1).trans rfl, (blk_cell BK335.out 2).trans rfl⟩ (fun hHeld => ?_)
  clear hK K
  refine norm_ (a' := ?_) ?_ ?_
  rotate_left
  ·show Act.put _ (some 18) _ = _
   exact pt_
  refine one_ (i := 10) (N := none) #[true, true, true, true, true, true, true, true, true, true, true] rfl rfl (one_of HT_.out (by kernel_rfl)) (by decide) (fun K hK => ?_)
  have hs18 : w17.cell? ⟨gb336, 0, none⟩ = some (.bool false) := (blk_cell BK336.out 0).trans rfl
  have hfs18 := fz_ BK336 0
  have hns18_0 := NB335_336.out
  have hms18_0 := NB336_335.out
  have hs20 : w17.cell? ⟨gb336, 1, none⟩ = some (.slice none 0 0) := (blk_cell BK336.out 1).trans rfl
  have hfs20 := fz_ BK336 1
  have hns20_0 := NB335_336.out
  have hms20_0 := NB336_335.out
  refine skip_ (w1 := ?_) (by rfl) rfl ?_ ?_
  rotate_left
  ·go_simp
   rfl
  refine hK.out _ _ ⟨((cell_far (p := ⟨gb336, _, none⟩) NB335_336.out _).trans (((cell_far (p := ⟨gb336, _, none⟩) NB335_336.out _).trans (hHeld.1)))), ((cell_far (p := ⟨gb336, _, none⟩) NB335_336.out _).trans (((cell_far (p := ⟨gb336, _, none⟩) NB335_336.out _).trans (hHeld.2.1)))), ((cell_far (p := ⟨gb336, _, none⟩) NB335_336.out _).trans (((cell_far (p := ⟨gb336, _, none⟩) NB335_336.out _).trans (hHeld.2.2))))⟩ (fun hHeld => ?_)
  clear hK K
  refine done_ (done_of HT_.out (by kernel_rfl)) ?_
  try go_wp2
  refine bodyPost_ret (results_cell_row rfl _ _ gb336 24 #[.bool t345, .slice Ao19 t346.length co19] (0, 0) _ rfl (by refine kb_ ?_; refine bp_ #[.bool t345, .slice none 0 0] 1 ?_; refine bp_ #[.bool false, .slice none 0 0] 0 ?_; exact BK336.out) Tryd.underlying24 rfl (by kernel_rfl)) rfl ?_
  exact ⟨_, rf_, by (with_reducible repeat (first | apply Kd.R_alloc | apply Kd.R_drewN | apply Kd.R_drew)); exact Kd.R_mono (Kd.R_far (p := ⟨gb336, 1, none⟩) (Kd.R_far (p := ⟨gb336, 0, none⟩) (Kd.R_types HO348.out BK336.out (by decide)) (fun _ hk => hk.2) (.bool t345)) (fun _ hk => hk.2) (.slice Ao19 t346.length co19)) (fun _ hk => trivial), bw_ HB.out⟩
 ·rw [if_neg c3] at H
  have c3b0 : decide (0 ≤ t341) = false := decide_eq_false c3
  clear c3
  replace H := Option.bind_eq_some_iff.mp H
  obtain ⟨t349, A210, H⟩ := H
  (try dsimp only at H)
  have A21 := Aside0.mk A210
  clear A210
  by_cases c22 : t337 = true
  ·subst c22
   have H1 : ((nat_Add.f k t349 (([1] : List Int))).bind fun t355 => ((whole_Make.f k true t355).bind fun bt358 => (some (bt358.1, bt358.2)))) = some (r1, r2) := by rw [if_pos rfl] at H; exact H
   clear H
   have H := H1
   clear H1
   obtain ⟨y352, hy352⟩ : ∃ y_ : List Int, y_ = (([1] : List Int)) := ⟨_, rfl⟩
   replace H : ((nat_Add.f k t349 y352).bind fun t355 => ((whole_Make.f k true t355).bind fun bt358 => (some (bt358.1, bt358.2)))) = some (r1, r2) := by first | (rw [hy352]; with_reducible exact H) | (have H2_ := (Option.bind_some _ _).symm.trans H; rw [hy352]; with_reducible exact H2_) | (have H2_ := (Option.bind_some _ _).symm.trans H; with_reducible exact H2_) | with_reducible exact H | (rw [hy352]; exact H) | exact H
   have Ny352 := Aside0.mk hy352
   clear hy352
   replace H := Option.bind_eq_some_iff.mp H
   obtain ⟨t355, A230, H⟩ := H
   (try dsimp only at H)
   have A23 := Aside0.mk A230
   clear A230
   replace H := Option.bind_eq_some_iff.mp H
   obtain ⟨⟨t358, t359⟩, A240, H⟩ := H
   (try dsimp only at H)
   have A24 := Aside0.mk A240
   clear A240
   simp only [Option.some.injEq, Prod.mk.injEq] at H
   obtain ⟨rfl, rfl⟩ := H
   go_enter Tryd.func23, Tryd.ntmps23
   go_wp2_with (first | ((with_reducible refine gate_dst (N := 1) rfl ?_); refine bx_ 1 #[.bool a0_0, .slice A0_1 l0_1.length c0_1, .int .i64 a0_2] 27 ?_; intro gb335 hg w25 hbox hb; have BK335 := Aside0.mk (hbox); have GW335 := ge_ hg HB; have GE335 := ge_ hg HB; replace HB := bq_ HB hb; clear hb hbox hg) | ((with_reducible refine gate_dst (N := 2) rfl ?_); refine bx_ 2 #[.bool false, .slice none 0 0] 24 ?_; intro gb336 hg w26 hbox hb; have BK336 := Aside0.mk (hbox); have GW336 := ge_ hg HB; have GE336 := ge_ hg HB; have NB335_336 := nb_ hg BK335; have NB336_335 := nc_ hg BK335; replace BK335 := kq_ BK335 hb; replace HB := bq_ HB hb; clear hb hbox hg; have hnb27 := NB335_336.out; have hnc27 := NB336_335.out; obtain ⟨hcz28_0, hcz28_1, hcz28_2, hfz28_0, hfz28_1, hfz28_2⟩ := c3_ BK335) | ((with_reducible refine gate_callee (f := 46) rfl ?_); refine gl_ (some 5) Tryd.func46 #[.agg #[.bool a0_0, .slice A0_1 l0_1.length c0_1, .int .i64 a0_2]] ?_; (with_reducible refine (dy_fair.calls k a0_0 (fun k_ => k_ < w.heap.size) _ _ l0_1 a0_2 true t338 t341 _ ?side1 A2.out ?sidet).mono ?_); (case sidet => exact Kd.C_below HTAB.out (bw_ HB.out)); (case side1 => exact Kd.V_mk HC0_1.out (Kd.F_below (Kd.C_F (Kd.heap_int .u32) HR0_1.out) (bw_ HB.out))); rintro e w29 ⟨v339, rfl, ho0, hb⟩; refine ⟨_, rfl, ?_⟩; have n0_ := Aside0.mk (Kd.V_lower (Kd.V_mono (ok' := fun k_ => k_ ≠ gb335 ∧ k_ ≠ gb336) ho0 (fun k_ hk_ => ⟨Or.elim hk_ (fun hs_ => fun e_ => Nat.not_le.2 hs_ (by rw [e_]; exact GW335.out)) (fun hn_ => (Kd.freshB (g := gb335) (o := .cells #[.bool a0_0, .slice A0_1 l0_1.length c0_1, .int .i64 a0_2] 27 (0, 0)) (kb_ BK335.out) k_ hn_)), Or.elim hk_ (fun hs_ => fun e_ => Nat.not_le.2 hs_ (by rw [e_]; exact GW336.out)) (fun hn_ => (Kd.freshB (g := gb336) (o := .cells #[.bool false, .slice none 0 0] 24 (0, 0)) (kb_ BK336.out) k_ hn_))⟩)) (below_size (bw_ HB.out))); have n1_ := kq_ BK335 hb; have n2_ := kq_ BK336 hb; have n3_ := bq_ HB hb; clear BK335; clear BK336; clear HB; have HO340 := n0_; have BK335 := n1_; have BK336 := n2_; have HB := n3_; clear n0_ n1_ n2_ n3_; (try clear hb); (try clear hb2); (try clear hk); (try clear hi); (try clear ho0); obtain ⟨hcz30_0, hcz30_1, hcz30_2, hfz30_0, hfz30_1, hfz30_2⟩ := c3_ BK335; obtain ⟨Ao31, co31, eo31⟩ := Kd.V_slice HO340.out; subst eo31) | ((with_reducible refine gate_callee (f := 42) rfl ?_); refine gl_ (some 25) Tryd.func42 #[.slice Ao31 t338.length co31, .int .i64 (wrap64 (-t341))] ?_; (with_reducible refine (nat_Shr.calls k _ _ t338 (wrap64 (-t341)) t349 _ ?side1 ?side2 A21.out).mono ?_); (case side1 => refine (Kd.V_reads' (e := 51) (base := w.heap.size) (ok := fun k_ => (k_ ≠ gb335 ∧ k_ ≠ gb336)) (n := t338.length) (c := co31) ?_).2.2; exact (by (with_reducible repeat (first | apply Kd.V_alloc | apply Kd.V_drewN | apply Kd.V_drew)); exact (Kd.V_mono (Kd.V_far (p := ⟨gb335, 2, none⟩) (Kd.V_far (p := ⟨gb335, 1, none⟩) (Kd.V_far (p := ⟨gb335, 0, none⟩) (Kd.V_mono HO340.out (fun k_ hk => (⟨hk, hk.1⟩ : _ ∧ k_ ≠ gb335))) (fun _ hk => hk.2) (.bool true)) (fun _ hk => hk.2) (.slice Ao31 t338.length co31)) (fun _ hk => hk.2) (.int .i64 t341)) (fun _ h_ => h_.1)))); (case side2 => exact (Kd.V_reads' HO340.out).2.1); rintro e w32 ⟨v350, rfl, ho0, hb⟩; refine ⟨_, rfl, ?_⟩; have n0_ := Aside0.mk (Kd.V_elder' (by (with_reducible repeat (first | apply Kd.V_alloc | apply Kd.V_drewN | apply Kd.V_drew)); exact (Kd.V_mono (Kd.V_far (p := ⟨gb335, 2, none⟩) (Kd.V_far (p := ⟨gb335, 1, none⟩) (Kd.V_far (p := ⟨gb335, 0, none⟩) (Kd.V_mono HO340.out (fun k_ hk => (⟨hk, hk.1⟩ : _ ∧ k_ ≠ gb335))) (fun _ hk => hk.2) (.bool true)) (fun _ hk => hk.2) (.slice Ao31 t338.length co31)) (fun _ hk => hk.2) (.int .i64 t341)) (fun _ h_ => h_.1))) (Kd.R_base ho0) hb); have n1_ := Aside0.mk (Kd.R_lower ho0 (below_size (bw_ HB.out))); have n2_ := Aside0.mk (blk_below (g := gb335) (o := .cells #[.bool true, .slice Ao31 t338.length co31, .int .i64 t341] 27 (0, 0)) (by refine kb_ ?_; refine bp_ #[.bool true, .slice Ao31 t338.length co31, .int .i64 a0_2] 2 ?_; refine bp_ #[.bool true, .slice A0_1 l0_1.length c0_1, .int .i64 a0_2] 1 ?_; refine bp_ #[.bool a0_0, .slice A0_1 l0_1.length c0_1, .int .i64 a0_2] 0 ?_; exact BK335.out) hb); have n3_ := Aside0.mk (blk_below (g := gb336) (o := .cells #[.bool false, .slice none 0 0] 24 (0, 0)) (by refine kb_ ?_; refine bf_ NB336_335 ?_; refine bf_ NB336_335 ?_; refine bf_ NB336_335 ?_; exact BK336.out) hb); have n4_ := bq_ HB hb; clear HO340; clear BK335; clear BK336; clear HB; have HO340 := n0_; have HO351 := n1_; have BK335 := n2_; have BK336 := n3_; have HB := n4_; clear n0_ n1_ n2_ n3_ n4_; (try clear hb); (try clear hb2); (try clear hk); (try clear hi); (try clear ho0); obtain ⟨hcz33_0, hcz33_1, hcz33_2, hfz33_0, hfz33_1, hfz33_2⟩ := c3_ BK335) | ((with_reducible refine gate_dst (N := 30) rfl ?_); refine Kd.R_lit (Kd.int .u32) _ 51 ?hg (N := 30) ?hd (xs := ([1] : List Int)) (inner := [.int .u32 1]) (ok := fun _ => True) (okp := fun _ => True) ?hr ?hp (fun _ hk => hk) trivial (Below.refl _ _) (Nat.le_refl _) (by simp) ?_; (case hd => rfl); (case hg => rfl); (case hr => first | (go_simp; done) | (go_simp; rfl)); (case hp => exact (Reps.one (show Kd.M (Kd.int .u32) _ _ _ 1 [.int .u32 1] from rfl) (Reps.none _ _))); intro v353 w34 ho35 hb hg_ hnew_; clear hg_ hnew_; (first | rw [← Ny352.out] at ho35 | (simp only [Int.reduceToNat] at ho35; rw [← Ny352.out] at ho35)); have n0_ := Aside0.mk (Kd.V_elder' (by (with_reducible repeat (first | apply Kd.V_alloc | apply Kd.V_drewN | apply Kd.V_drew)); exact HO340.out) (Kd.R_base ho35) hb); have n1_ := Aside0.mk (Kd.R_elder' (kr_ HO351.out) (Kd.R_base ho35) hb); have n2_ := Aside0.mk (Kd.R_lower (Kd.R_new' ho35 (Kd.R_lt (kr_ HO351.out))) (below_size (bw_ HB.out))); have n3_ := kq_ BK335 hb; have n4_ := kq_ BK336 hb; have n5_ := bq_ HB hb; clear HO340; clear HO351; clear BK335; clear BK336; clear HB; have HO340 := n0_; have HO351 := n1_; have HO354 := n2_; have BK335 := n3_; have BK336 := n4_; have HB := n5_; clear n0_ n1_ n2_ n3_ n4_ n5_; clear hb ho35; obtain ⟨Ao36, co36, eo36⟩ := Kd.R_slice HO351.out; subst eo36; obtain ⟨Ao37, co37, eo37⟩ := Kd.R_slice HO354.out; subst eo37) | ((with_reducible refine gate_callee (f := 53) rfl ?_); refine gl_ (some 31) Tryd.func53 #[.slice Ao36 t349.length co36, .slice Ao37 y352.length co37] ?_; (with_reducible refine (nat_Add.calls k _ _ t349 _ _ y352 t355 _ ?side1 ?side2 ?side3 ?side4 A23.out).mono ?_); (case side1 => exact kc_ (Kd.R_reads' HO351.out).2.2); (case side2 => exact (Kd.R_reads' HO351.out).2.1); (case side3 => exact kc_ (Kd.R_reads' HO354.out).2.2); (case side4 => exact (Kd.R_reads' HO354.out).2.1); rintro e w38 ⟨v356, rfl, ho0, hb⟩; refine ⟨_, rfl, ?_⟩; have n0_ := Aside0.mk (Kd.V_elder' (by (with_reducible repeat (first | apply Kd.V_alloc | apply Kd.V_drewN | apply Kd.V_drew)); exact HO340.out) (Kd.R_base ho0) hb); have n1_ := Aside0.mk (Kd.R_elder' (kr_ HO351.out) (Kd.R_base ho0) hb); have n2_ := Aside0.mk (Kd.R_elder' (kr_ HO354.out) (Kd.R_base ho0) hb); have n3_ := Aside0.mk (Kd.R_lower (Kd.R_new' (Kd.R_new' ho0 (Kd.R_lt (kr_ HO351.out))) (Kd.R_lt (kr_ HO354.out))) (below_size (bw_ HB.out))); have n4_ := kq_ BK335 hb; have n5_ := kq_ BK336 hb; have n6_ := bq_ HB hb; clear HO340; clear HO351; clear HO354; clear BK335; clear BK336; clear HB; have HO340 := n0_; have HO351 := n1_; have HO354 := n2_; have HO357 := n3_; have BK335 := n4_; have BK336 := n5_; have HB := n6_; clear n0_ n1_ n2_ n3_ n4_ n5_ n6_; (try clear hb); (try clear hb2); (try clear hk); (try clear hi); (try clear ho0); obtain ⟨hcz39_0, hcz39_1, hcz39_2, hfz39_0, hfz39_1, hfz39_2⟩ := c3_ BK335; obtain ⟨Ao40, co40, eo40⟩ := Kd.R_slice HO357.out; subst eo40) | ((with_reducible refine gate_callee (f := 41) rfl ?_); refine gl_ (some 36) Tryd.func41 #[.bool true, .slice Ao40 t355.length co40] ?_; (with_reducible refine (whole_Make.calls k true _ _ t355 t358 t359 _ ?side1 ?side2 A24.out).mono ?_); (case side1 => exact kc_ (Kd.R_reads' HO357.out).2.2); (case side2 => exact (Kd.R_reads' HO357.out).2.1); rintro e w41 ⟨v360, rfl, ho0, hb⟩; refine ⟨_, rfl, ?_⟩; have n0_ := Aside0.mk (Kd.V_elder' (by (with_reducible repeat (first | apply Kd.V_alloc | apply Kd.V_drewN | apply Kd.V_drew)); exact HO340.out) (Kd.R_base ho0) hb); have n1_ := Aside0.mk (Kd.R_elder' (kr_ HO351.out) (Kd.R_base ho0) hb); have n2_ := Aside0.mk (Kd.R_elder' (kr_ HO354.out) (Kd.R_base ho0) hb); have n3_ := Aside0.mk (Kd.R_elder' (kr_ HO357.out) (Kd.R_base ho0) hb); have n4_ := Aside0.mk (Kd.R_lower (Kd.R_new' (Kd.R_new' (Kd.R_new' ho0 (Kd.R_lt (kr_ HO351.out))) (Kd.R_lt (kr_ HO354.out))) (Kd.R_lt (kr_ HO357.out))) (below_size (bw_ HB.out))); have n5_ := kq_ BK335 hb; have n6_ := kq_ BK336 hb; have n7_ := bq_ HB hb; clear HO340; clear HO351; clear HO354; clear HO357; clear BK335; clear BK336; clear HB; have HO340 := n0_; have HO351 := n1_; have HO354 := n2_; have HO357 := n3_; have HO361 := n4_; have BK335 := n5_; have BK336 := n6_; have HB := n7_; clear n0_ n1_ n2_ n3_ n4_ n5_ n6_ n7_; (try clear hb); (try clear hb2); (try clear hk); (try clear hi); (try clear ho0); obtain ⟨hcz42_0, hcz42_1, hfz42_0, hfz42_1⟩ := c2_ BK336; obtain ⟨Ao43, co43, eo43⟩ := Kd.R_slice HO361.out; subst eo43))
   refine bodyPost_ret (results_cell_row rfl _ _ gb336 24 #[.bool t358, .slice Ao43 t359.length co43] (0, 0) _ rfl (by refine kb_ ?_; refine bp_ #[.bool t358, .slice none 0 0] 1 ?_; refine bp_ #[.bool false, .slice none 0 0] 0 ?_; exact BK336.out) Tryd.underlying24 rfl (by kernel_rfl)) rfl ?_
   exact ⟨_, rf_, by (with_reducible repeat (first | apply Kd.R_alloc | apply Kd.R_drewN | apply Kd.R_drew)); exact Kd.R_mono (Kd.R_far (p := ⟨gb336, 1, none⟩) (Kd.R_far (p := ⟨gb336, 0, none⟩) (Kd.R_types HO361.out BK336.out (by decide)) (fun _ hk => hk.2) (.bool t358)) (fun _ hk => hk.2) (.slice Ao43 t359.length co43)) (fun _ hk => trivial), bw_ HB.out⟩
  ·replace c22 := Bool.eq_false_iff.mpr c22
   subst c22
   have H1 : ((whole_Make.f k false t349).bind fun bt362 => (some (bt362.1, bt362.2))) = some (r1, r2) := by rw [if_neg (show ¬ (false = true) by decide)] at H; exact H
   clear H
   have H := H1
   clear H1
   replace H := Option.bind_eq_some_iff.mp H
   obtain ⟨⟨t362, t363⟩, A440, H⟩ := H
   (try dsimp only at H)
   have A44 := Aside0.mk A440
   clear A440
   simp only [Option.some.injEq, Prod.mk.injEq] at H
   obtain ⟨rfl, rfl⟩ := H
   go_enter Tryd.func23, Tryd.ntmps23
   go_wp2_with (first | ((with_reducible refine gate_dst (N := 1) rfl ?_); refine bx_ 1 #[.bool a0_0, .slice A0_1 l0_1.length c0_1, .int .i64 a0_2] 27 ?_; intro gb335 hg w45 hbox hb; have BK335 := Aside0.mk (hbox); have GW335 := ge_ hg HB; have GE335 := ge_ hg HB; replace HB := bq_ HB hb; clear hb hbox hg) | ((with_reducible refine gate_dst (N := 2) rfl ?_); refine bx_ 2 #[.bool false, .slice none 0 0] 24 ?_; intro gb336 hg w46 hbox hb; have BK336 := Aside0.mk (hbox); have GW336 := ge_ hg HB; have GE336 := ge_ hg HB; have NB335_336 := nb_ hg BK335; have NB336_335 := nc_ hg BK335; replace BK335 := kq_ BK335 hb; replace HB := bq_ HB hb; clear hb hbox hg; have hnb47 := NB335_336.out; have hnc47 := NB336_335.out; obtain ⟨hcz48_0, hcz48_1, hcz48_2, hfz48_0, hfz48_1, hfz48_2⟩ := c3_ BK335) | ((with_reducible refine gate_callee (f := 46) rfl ?_); refine gl_ (some 5) Tryd.func46 #[.agg #[.bool a0_0, .slice A0_1 l0_1.length c0_1, .int .i64 a0_2]] ?_; (with_reducible refine (dy_fair.calls k a0_0 (fun k_ => k_ < w.heap.size) _ _ l0_1 a0_2 false t338 t341 _ ?side1 A2.out ?sidet).mono ?_); (case sidet => exact Kd.C_below HTAB.out (bw_ HB.out)); (case side1 => exact Kd.V_mk HC0_1.out (Kd.F_below (Kd.C_F (Kd.heap_int .u32) HR0_1.out) (bw_ HB.out))); rintro e w49 ⟨v339, rfl, ho0, hb⟩; refine ⟨_, rfl, ?_⟩; have n0_ := Aside0.mk (Kd.V_lower (Kd.V_mono (ok' := fun k_ => k_ ≠ gb335 ∧ k_ ≠ gb336) ho0 (fun k_ hk_ => ⟨Or.elim hk_ (fun hs_ => fun e_ => Nat.not_le.2 hs_ (by rw [e_]; exact GW335.out)) (fun hn_ => (Kd.freshB (g := gb335) (o := .cells #[.bool a0_0, .slice A0_1 l0_1.length c0_1, .int .i64 a0_2] 27 (0, 0)) (kb_ BK335.out) k_ hn_)), Or.elim hk_ (fun hs_ => fun e_ => Nat.not_le.2 hs_ (by rw [e_]; exact GW336.out)) (fun hn_ => (Kd.freshB (g := gb336) (o := .cells #[.bool false, .slice none 0 0] 24 (0, 0)) (kb_ BK336.out) k_ hn_))⟩)) (below_size (bw_ HB.out))); have n1_ := kq_ BK335 hb; have n2_ := kq_ BK336 hb; have n3_ := bq_ HB hb; clear BK335; clear BK336; clear HB; have HO340 := n0_; have BK335 := n1_; have BK336 := n2_; have HB := n3_; clear n0_ n1_ n2_ n3_; (try clear hb); (try clear hb2); (try clear hk); (try clear hi); (try clear ho0); obtain ⟨hcz50_0, hcz50_1, hcz50_2, hfz50_0, hfz50_1, hfz50_2⟩ := c3_ BK335; obtain ⟨Ao51, co51, eo51⟩ := Kd.V_slice HO340.out; subst eo51) | ((with_reducible refine gate_callee (f := 42) rfl ?_); refine gl_ (some 25) Tryd.func42 #[.slice Ao51 t338.length co51, .int .i64 (wrap64 (-t341))] ?_; (with_reducible refine (nat_Shr.calls k _ _ t338 (wrap64 (-t341)) t349 _ ?side1 ?side2 A21.out).mono ?_); (case side1 => refine (Kd.V_reads' (e := 51) (base := w.heap.size) (ok := fun k_ => (k_ ≠ gb335 ∧ k_ ≠ gb336)) (n := t338.length) (c := co51) ?_).2.2; exact (by (with_reducible repeat (first | apply Kd.V_alloc | apply Kd.V_drewN | apply Kd.V_drew)); exact (Kd.V_mono (Kd.V_far (p := ⟨gb335, 2, none⟩) (Kd.V_far (p := ⟨gb335, 1, none⟩) (Kd.V_far (p := ⟨gb335, 0, none⟩) (Kd.V_mono HO340.out (fun k_ hk => (⟨hk, hk.1⟩ : _ ∧ k_ ≠ gb335))) (fun _ hk => hk.2) (.bool false)) (fun _ hk => hk.2) (.slice Ao51 t338.length co51)) (fun _ hk => hk.2) (.int .i64 t341)) (fun _ h_ => h_.1)))); (case side2 => exact (Kd.V_reads' HO340.out).2.1); rintro e w52 ⟨v350, rfl, ho0, hb⟩; refine ⟨_, rfl, ?_⟩; have n0_ := Aside0.mk (Kd.V_elder' (by (with_reducible repeat (first | apply Kd.V_alloc | apply Kd.V_drewN | apply Kd.V_drew)); exact (Kd.V_mono (Kd.V_far (p := ⟨gb335, 2, none⟩) (Kd.V_far (p := ⟨gb335, 1, none⟩) (Kd.V_far (p := ⟨gb335, 0, none⟩) (Kd.V_mono HO340.out (fun k_ hk => (⟨hk, hk.1⟩ : _ ∧ k_ ≠ gb335))) (fun _ hk => hk.2) (.bool false)) (fun _ hk => hk.2) (.slice Ao51 t338.length co51)) (fun _ hk => hk.2) (.int .i64 t341)) (fun _ h_ => h_.1))) (Kd.R_base ho0) hb); have n1_ := Aside0.mk (Kd.R_lower ho0 (below_size (bw_ HB.out))); have n2_ := Aside0.mk (blk_below (g := gb335) (o := .cells #[.bool false, .slice Ao51 t338.length co51, .int .i64 t341] 27 (0, 0)) (by refine kb_ ?_; refine bp_ #[.bool false, .slice Ao51 t338.length co51, .int .i64 a0_2] 2 ?_; refine bp_ #[.bool false, .slice A0_1 l0_1.length c0_1, .int .i64 a0_2] 1 ?_; refine bp_ #[.bool a0_0, .slice A0_1 l0_1.length c0_1, .int .i64 a0_2] 0 ?_; exact BK335.out) hb); have n3_ := Aside0.mk (blk_below (g := gb336) (o := .cells #[.bool false, .slice none 0 0] 24 (0, 0)) (by refine kb_ ?_; refine bf_ NB336_335 ?_; refine bf_ NB336_335 ?_; refine bf_ NB336_335 ?_; exact BK336.out) hb); have n4_ := bq_ HB hb; clear HO340; clear BK335; clear BK336; clear HB; have HO340 := n0_; have HO351 := n1_; have BK335 := n2_; have BK336 := n3_; have HB := n4_; clear n0_ n1_ n2_ n3_ n4_; (try clear hb); (try clear hb2); (try clear hk); (try clear hi); (try clear ho0); obtain ⟨hcz53_0, hcz53_1, hcz53_2, hfz53_0, hfz53_1, hfz53_2⟩ := c3_ BK335; obtain ⟨Ao54, co54, eo54⟩ := Kd.R_slice HO351.out; subst eo54) | ((with_reducible refine gate_callee (f := 41) rfl ?_); refine gl_ (some 36) Tryd.func41 #[.bool false, .slice Ao54 t349.length co54] ?_; (with_reducible refine (whole_Make.calls k false _ _ t349 t362 t363 _ ?side1 ?side2 A44.out).mono ?_); (case side1 => exact kc_ (Kd.R_reads' HO351.out).2.2); (case side2 => exact (Kd.R_reads' HO351.out).2.1); rintro e w55 ⟨v364, rfl, ho0, hb⟩; refine ⟨_, rfl, ?_⟩; have n0_ := Aside0.mk (Kd.V_elder' (by (with_reducible repeat (first | apply Kd.V_alloc | apply Kd.V_drewN | apply Kd.V_drew)); exact HO340.out) (Kd.R_base ho0) hb); have n1_ := Aside0.mk (Kd.R_elder' (kr_ HO351.out) (Kd.R_base ho0) hb); have n2_ := Aside0.mk (Kd.R_lower (Kd.R_new' ho0 (Kd.R_lt (kr_ HO351.out))) (below_size (bw_ HB.out))); have n3_ := kq_ BK335 hb; have n4_ := kq_ BK336 hb; have n5_ := bq_ HB hb; clear HO340; clear HO351; clear BK335; clear BK336; clear HB; have HO340 := n0_; have HO351 := n1_; have HO365 := n2_; have BK335 := n3_; have BK336 := n4_; have HB := n5_; clear n0_ n1_ n2_ n3_ n4_ n5_; (try clear hb); (try clear hb2); (try clear hk); (try clear hi); (try clear ho0); obtain ⟨hcz56_0, hcz56_1, hfz56_0, hfz56_1⟩ := c2_ BK336; obtain ⟨Ao57, co57, eo57⟩ := Kd.R_slice HO365.out; subst eo57))
   refine bodyPost_ret (results_cell_row rfl _ _ gb336 24 #[.bool t362, .slice Ao57 t363.length co57] (0, 0) _ rfl (by refine kb_ ?_; refine bp_ #[.bool t362, .slice none 0 0] 1 ?_; refine bp_ #[.bool false, .slice none 0 0] 0 ?_; exact BK336.out) Tryd.underlying24 rfl (by kernel_rfl)) rfl ?_
   exact ⟨_, rf_, by (with_reducible repeat (first | apply Kd.R_alloc | apply Kd.R_drewN | apply Kd.R_drew)); exact Kd.R_mono (Kd.R_far (p := ⟨gb336, 1, none⟩) (Kd.R_far (p := ⟨gb336, 0, none⟩) (Kd.R_types HO365.out BK336.out (by decide)) (fun _ hk => hk.2) (.bool t362)) (fun _ hk => hk.2) (.slice Ao57 t363.length co57)) (fun _ hk => trivial), bw_ HB.out⟩

/-! ### whole_From: function 25 -/
set_option maxHeartbeats 8000000 in
set_option maxRecDepth 100000 in
theorem whole_From.calls (k : Nat) (a0 : Int) (r1 : Bool) (r2 : List Int) (w : World) (h : whole_From.f k a0 = some (r1, r2)) :
  Calls Tryd.prog 25 #[.int .i64 a0] w fun e w' => ∃ v1_ : Value, e = .returned (.agg #[.bool r1, v1_]) ∧ Kd.R (Kd.int .u32) 51 w' w.heap.size (fun _ => True) v1_ r2 ∧ Below w.heap.size w w' := by
 have hu24 := Tryd.underlying24
 have HB := Aside0.mk (Below.refl w.heap.size w)
 have H : (if a0 < 0 then ((whole_Make.f k (decide (a0 < 0)) (([(IntKind.u64.wrap (-(IntKind.u64.wrap (a0)))) % 4294967296, ((IntKind.u64.wrap (-(IntKind.u64.wrap (a0)))) / 4294967296) % 4294967296] : List Int))).bind fun bt370 => (some (bt370.1, bt370.2))) else ((whole_Make.f k (decide (a0 < 0)) (([(IntKind.u64.wrap (a0)) % 4294967296, ((IntKind.u64.wrap (a0)) / 4294967296) % 4294967296] : List Int))).bind fun bt377 => (some (bt377.1, bt377.2)))) = some (r1, r2) := h
 clear h
 by_cases c2 : a0 < 0
 ·rw [if_pos c2] at H
  have c2b0 : decide (a0 < 0) = true := decide_eq_true c2
  clear c2
  obtain ⟨y367, hy367⟩ : ∃ y_ : List Int, y_ = (([(IntKind.u64.wrap (-(IntKind.u64.wrap (a0)))) % 4294967296, ((IntKind.u64.wrap (-(IntKind.u64.wrap (a0)))) / 4294967296) % 4294967296] : List Int)) := ⟨_, rfl⟩
  replace H : ((whole_Make.f k (decide (a0 < 0)) y367).bind fun bt370 => (some (bt370.1, bt370.2))) = some (r1, r2) := by first | (rw [hy367]; with_reducible exact H) | (have H2_ := (Option.bind_some _ _).symm.trans H; rw [hy367]; with_reducible exact H2_) | (have H2_ := (Option.bind_some _ _).symm.trans H; with_reducible exact H2_) | with_reducible exact H | (rw [hy367]; exact H) | exact H
  have Ny367 := Aside0.mk hy367
  clear hy367
  replace H := Option.bind_eq_some_iff.mp H
  obtain ⟨⟨t370, t371⟩, A30, H⟩ := H
  (try dsimp only at H)
  have A3 := Aside0.mk A30
  clear A30
  simp only [Option.some.injEq, Prod.mk.injEq] at H
  obtain ⟨rfl, rfl⟩ := H
  go_enter Tryd.func25, Tryd.ntmps25
  go_wp2_with (first | ((with_reducible refine gate_dst (N := 2) rfl ?_); refine bx_ 2 #[.bool false, .slice none 0 0] 24 ?_; intro gb366 hg w4 hbox hb; have BK366 := Aside0.mk (hbox); have GW366 := ge_ hg HB; have GE366 := ge_ hg HB; replace HB := bq_ HB hb; clear hb hbox hg) | ((with_reducible refine gate_dst (N := 17) rfl ?_); refine Kd.R_lit (Kd.int .u32) _ 51 ?hg (N := 17) ?hd (xs := ([(IntKind.u64.wrap (-(IntKind.u64.wrap (a0)))) % 4294967296, ((IntKind.u64.wrap (-(IntKind.u64.wrap (a0)))) / 4294967296) % 4294967296] : List Int)) (inner := [.int .u32 ((IntKind.u64.wrap (-(IntKind.u64.wrap (a0)))) % 4294967296), .int .u32 (((IntKind.u64.wrap (-(IntKind.u64.wrap (a0)))) / 4294967296) % 4294967296)]) (ok := fun _ => True) (okp := fun _ => True) ?hr ?hp (fun _ hk => hk) trivial (Below.refl _ _) (Nat.le_refl _) (by simp) ?_; (case hd => rfl); (case hg => rfl); (case hr => first | (go_simp; done) | (go_simp; rfl)); (case hp => exact (Reps.one (show Kd.M (Kd.int .u32) _ _ _ ((IntKind.u64.wrap (-(IntKind.u64.wrap (a0)))) % 4294967296) [.int .u32 ((IntKind.u64.wrap (-(IntKind.u64.wrap (a0)))) % 4294967296)] from rfl) (Reps.one (show Kd.M (Kd.int .u32) _ _ _ (((IntKind.u64.wrap (-(IntKind.u64.wrap (a0)))) / 4294967296) % 4294967296) [.int .u32 (((IntKind.u64.wrap (-(IntKind.u64.wrap (a0)))) / 4294967296) % 4294967296)] from rfl) (Reps.none _ _)))); intro v368 w5 ho6 hb hg_ hnew_; clear hg_ hnew_; (first | rw [← Ny367.out] at ho6 | (simp only [Int.reduceToNat] at ho6; rw [← Ny367.out] at ho6)); have HO369 := Aside0.mk (Kd.R_lower ho6 (below_size (bw_ HB.out))); replace BK366 := kq_ BK366 hb; replace HB := bq_ HB hb; clear hb ho6; obtain ⟨Ao7, co7, eo7⟩ := Kd.R_slice HO369.out; subst eo7) | ((with_reducible refine gate_callee (f := 41) rfl ?_); refine gl_ (some 18) Tryd.func41 #[.bool (decide (a0 < 0)), .slice Ao7 y367.length co7] ?_; (with_reducible refine (whole_Make.calls k (decide (a0 < 0)) _ _ y367 t370 t371 _ ?side1 ?side2 A3.out).mono ?_); (case side1 => exact kc_ (Kd.R_reads' HO369.out).2.2); (case side2 => exact (Kd.R_reads' HO369.out).2.1); rintro e w8 ⟨v372, rfl, ho0, hb⟩; refine ⟨_, rfl, ?_⟩; have HO373 := Aside0.mk (Kd.R_lower (Kd.R_new' ho0 (Kd.R_lt (kr_ HO369.out))) (below_size (bw_ HB.out))); replace HO369 := Aside0.mk (Kd.R_elder' (kr_ HO369.out) (Kd.R_base ho0) hb); replace BK366 := kq_ BK366 hb; replace HB := bq_ HB hb; (try clear hb); (try clear hb2); (try clear hk); (try clear hi); (try clear ho0); obtain ⟨hcz9_0, hcz9_1, hfz9_0, hfz9_1⟩ := c2_ BK366; obtain ⟨Ao10, co10, eo10⟩ := Kd.R_slice HO373.out; subst eo10))
  refine bodyPost_ret (results_cell_row rfl _ _ gb366 24 #[.bool t370, .slice Ao10 t371.length co10] (0, 0) _ rfl (by refine kb_ ?_; refine bp_ #[.bool t370, .slice none 0 0] 1 ?_; refine bp_ #[.bool false, .slice none 0 0] 0 ?_; exact BK366.out) Tryd.underlying24 rfl (by kernel_rfl)) rfl ?_
  exact ⟨_, rf_, by (with_reducible repeat (first | apply Kd.R_alloc | apply Kd.R_drewN | apply Kd.R_drew)); exact Kd.R_mono (Kd.R_far (p := ⟨gb366, 1, none⟩) (Kd.R_far (p := ⟨gb366, 0, none⟩) (Kd.R_types HO373.out BK366.out (by decide)) (fun _ hk => hk.2) (.bool t370)) (fun _ hk => hk.2) (.slice Ao10 t371.length co10)) (fun _ hk => trivial), bw_ HB.out⟩
 ·rw [if_neg c2] at H
  have c2b0 : decide (a0 < 0) = false := decide_eq_false c2
  clear c2
  obtain ⟨y374, hy374⟩ : ∃ y_ : List Int, y_ = (([(IntKind.u64.wrap (a0)) % 4294967296, ((IntKind.u64.wrap (a0)) / 4294967296) % 4294967296] : List Int)) := ⟨_, rfl⟩
  replace H : ((whole_Make.f k (decide (a0 < 0)) y374).bind fun bt377 => (some (bt377.1, bt377.2))) = some (r1, r2) := by first | (rw [hy374]; with_reducible exact H) | (have H2_ := (Option.bind_some _ _).symm.trans H; rw [hy374]; with_reducible exact H2_) | (have H2_ := (Option.bind_some _ _).symm.trans H; with_reducible exact H2_) | with_reducible exact H | (rw [hy374]; exact H) | exact H
  have Ny374 := Aside0.mk hy374
  clear hy374
  replace H := Option.bind_eq_some_iff.mp H
  obtain ⟨⟨t377, t378⟩, A110, H⟩ := H
  (try dsimp only at H)
  have A11 := Aside0.mk A110
  clear A110
  simp only [Option.some.injEq, Prod.mk.injEq] at H
  obtain ⟨rfl, rfl⟩ := H
  go_enter Tryd.func25, Tryd.ntmps25
  go_wp2_with (first | ((with_reducible refine gate_dst (N := 2) rfl ?_); refine bx_ 2 #[.bool false, .slice none 0 0] 24 ?_; intro gb366 hg w12 hbox hb; have BK366 := Aside0.mk (hbox); have GW366 := ge_ hg HB; have GE366 := ge_ hg HB; replace HB := bq_ HB hb; clear hb hbox hg) | ((with_reducible refine gate_dst (N := 17) rfl ?_); refine Kd.R_lit (Kd.int .u32) _ 51 ?hg (N := 17) ?hd (xs := ([(IntKind.u64.wrap (a0)) % 4294967296, ((IntKind.u64.wrap (a0)) / 4294967296) % 4294967296] : List Int)) (inner := [.int .u32 ((IntKind.u64.wrap (a0)) % 4294967296), .int .u32 (((IntKind.u64.wrap (a0)) / 4294967296) % 4294967296)]) (ok := fun _ => True) (okp := fun _ => True) ?hr ?hp (fun _ hk => hk) trivial (Below.refl _ _) (Nat.le_refl _) (by simp) ?_; (case hd => rfl); (case hg => rfl); (case hr => first | (go_simp; done) | (go_simp; rfl)); (case hp => exact (Reps.one (show Kd.M (Kd.int .u32) _ _ _ ((IntKind.u64.wrap (a0)) % 4294967296) [.int .u32 ((IntKind.u64.wrap (a0)) % 4294967296)] from rfl) (Reps.one (show Kd.M (Kd.int .u32) _ _ _ (((IntKind.u64.wrap (a0)) / 4294967296) % 4294967296) [.int .u32 (((IntKind.u64.wrap (a0)) / 4294967296) % 4294967296)] from rfl) (Reps.none _ _)))); intro v375 w13 ho14 hb hg_ hnew_; clear hg_ hnew_; (first | rw [← Ny374.out] at ho14 | (simp only [Int.reduceToNat] at ho14; rw [← Ny374.out] at ho14)); have HO376 := Aside0.mk (Kd.R_lower ho14 (below_size (bw_ HB.out))); replace BK366 := kq_ BK366 hb; replace HB := bq_ HB hb; clear hb ho14; obtain ⟨Ao15, co15, eo15⟩ := Kd.R_slice HO376.out; subst eo15) | ((with_reducible refine gate_callee (f := 41) rfl ?_); refine gl_ (some 18) Tryd.func41 #[.bool (decide (a0 < 0)), .slice Ao15 y374.length co15] ?_; (with_reducible refine (whole_Make.calls k (decide (a0 < 0)) _ _ y374 t377 t378 _ ?side1 ?side2 A11.out).mono ?_); (case side1 => exact kc_ (Kd.R_reads' HO376.out).2.2); (case side2 => exact (Kd.R_reads' HO376.out).2.1); rintro e w16 ⟨v379, rfl, ho0, hb⟩; refine ⟨_, rfl, ?_⟩; have HO380 := Aside0.mk (Kd.R_lower (Kd.R_new' ho0 (Kd.R_lt (kr_ HO376.out))) (below_size (bw_ HB.out))); replace HO376 := Aside0.mk (Kd.R_elder' (kr_ HO376.out) (Kd.R_base ho0) hb); replace BK366 := kq_ BK366 hb; replace HB := bq_ HB hb; (try clear hb); (try clear hb2); (try clear hk); (try clear hi); (try clear ho0); obtain ⟨hcz17_0, hcz17_1, hfz17_0, hfz17_1⟩ := c2_ BK366; obtain ⟨Ao18, co18, eo18⟩ := Kd.R_slice HO380.out; subst eo18))
  refine bodyPost_ret (results_cell_row rfl _ _ gb366 24 #[.bool t377, .slice Ao18 t378.length co18] (0, 0) _ rfl (by refine kb_ ?_; refine bp_ #[.bool t377, .slice none 0 0] 1 ?_; refine bp_ #[.bool false, .slice none 0 0] 0 ?_; exact BK366.out) Tryd.underlying24 rfl (by kernel_rfl)) rfl ?_
  exact ⟨_, rf_, by (with_reducible repeat (first | apply Kd.R_alloc | apply Kd.R_drewN | apply Kd.R_drew)); exact Kd.R_mono (Kd.R_far (p := ⟨gb366, 1, none⟩) (Kd.R_far (p := ⟨gb366, 0, none⟩) (Kd.R_types HO380.out BK366.out (by decide)) (fun _ hk => hk.2) (.bool t377)) (fun _ hk => hk.2) (.slice Ao18 t378.length co18)) (fun _ hk => trivial), bw_ HB.out⟩

/-! ### whole_Int: function 37 -/
set_option maxHeartbeats 8000000 in
set_option maxRecDepth 100000 in
theorem whole_Int.calls (k : Nat) (a0_0 : Bool) (A0_1 : Option Addr) (c0_1 : Nat) (l0_1 : List Int) (r1 : Int) (r2 : Bool) (w : World) (hr0_1 : Kd.C (Kd.int .u32) w A0_1 l0_1.length l0_1) (hc0_1 : l0_1.length ≤ c0_1) (h : whole_Int.f k a0_0 l0_1 = some (r1, r2)) :
  Calls Tryd.prog 37 #[.agg #[.bool a0_0, .slice A0_1 l0_1.length c0_1]] w fun e w' => e = .returned (.tuple #[.int .i64 r1, .bool r2]) ∧ Below w.heap.size w w' := by
 have hu24 := Tryd.underlying24
 have HR0_1 := Aside0.mk hr0_1
 have HC0_1 := Aside0.mk hc0_1
 clear hr0_1 hc0_1
 have HB := Aside0.mk (Below.refl w.heap.size w)
 have H : ((nat_Trim.f k l0_1).bind fun t382 => (if (t382.length : Int) > 2 then (some (0, false)) else (whole_Int.l0 k 0 t382 (t382.length : Int) 0 a0_0 l0_1))) = some (r1, r2) := h
 clear h
 replace H := Option.bind_eq_some_iff.mp H
 obtain ⟨t382, A20, H⟩ := H
 (try dsimp only at H)
 have A2 := Aside0.mk A20
 clear A20
 by_cases c3 : (t382.length : Int) > 2
 ·rw [if_pos c3] at H
  have c3b0 : decide (2 < (t382.length : Int)) = true := decide_eq_true c3
  have c3b1 : decide (2 < t382.length) = true := decide_eq_true (by omega)
  clear c3
  simp only [Option.some.injEq, Prod.mk.injEq] at H
  obtain ⟨rfl, rfl⟩ := H
  go_enter Tryd.func37, Tryd.ntmps37
  go_wp2_with (first | ((with_reducible refine gate_dst (N := 1) rfl ?_); refine bx_ 1 #[.bool a0_0, .slice A0_1 l0_1.length c0_1] 24 ?_; intro gb381 hg w4 hbox hb; have BK381 := Aside0.mk (hbox); have GW381 := ge_ hg HB; have GE381 := ge_ hg HB; replace HB := bq_ HB hb; clear hb hbox hg; obtain ⟨hcz5_0, hcz5_1, hfz5_0, hfz5_1⟩ := c2_ BK381) | ((with_reducible refine gate_callee (f := 64) rfl ?_); refine gl_ (some 12) Tryd.func64 #[.slice A0_1 l0_1.length c0_1] ?_; (with_reducible refine (nat_Trim.calls k _ _ l0_1 t382 _ ?side1 ?side2 A2.out).mono ?_); (case side1 => exact kc_ (Kd.C_below HR0_1.out HB.out)); (case side2 => exact HC0_1.out); rintro e w6 ⟨v383, rfl, ho0, hb⟩; refine ⟨_, rfl, ?_⟩; have HO384 := Aside0.mk (Kd.R_lower ho0 (below_size (bw_ HB.out))); replace BK381 := kq_ BK381 hb; replace HB := bq_ HB hb; (try clear hb); (try clear hb2); (try clear hk); (try clear hi); (try clear ho0); obtain ⟨Ao7, co7, eo7⟩ := Kd.R_slice HO384.out; subst eo7))
  go_ret2
  exact ⟨rf_, bw_ HB.out⟩
 ·rw [if_neg c3] at H
  have c3b0 : decide (2 < (t382.length : Int)) = false := decide_eq_false c3
  have c3b1 : decide (2 < t382.length) = false := decide_eq_false (by omega)
  clear c3
  have H' := Aside0.mk H
  clear H
  go_enter Tryd.func37, Tryd.ntmps37
  go_wp2_with (first | ((with_reducible refine gate_dst (N := 1) rfl ?_); refine bx_ 1 #[.bool a0_0, .slice A0_1 l0_1.length c0_1] 24 ?_; intro gb381 hg w8 hbox hb; have BK381 := Aside0.mk (hbox); have GW381 := ge_ hg HB; have GE381 := ge_ hg HB; replace HB := bq_ HB hb; clear hb hbox hg; obtain ⟨hcz9_0, hcz9_1, hfz9_0, hfz9_1⟩ := c2_ BK381) | ((with_reducible refine gate_callee (f := 64) rfl ?_); refine gl_ (some 12) Tryd.func64 #[.slice A0_1 l0_1.length c0_1] ?_; (with_reducible refine (nat_Trim.calls k _ _ l0_1 t382 _ ?side1 ?side2 A2.out).mono ?_); (case side1 => exact kc_ (Kd.C_below HR0_1.out HB.out)); (case side2 => exact HC0_1.out); rintro e w10 ⟨v383, rfl, ho0, hb⟩; refine ⟨_, rfl, ?_⟩; have HO384 := Aside0.mk (Kd.R_lower ho0 (below_size (bw_ HB.out))); replace BK381 := kq_ BK381 hb; replace HB := bq_ HB hb; (try clear hb); (try clear hb2); (try clear hk); (try clear hi); (try clear ho0); obtain ⟨Ao11, co11, eo11⟩ := Kd.R_slice HO384.out; subst eo11))
  go_loopg [5, 18] k (fun kq v5 v18 w' => ∃ (x5_1 : Int) (x18_1 : Int), v5 = .int .u64 x5_1 ∧ v18 = .int .i64 x18_1 ∧ Aside0 (whole_Int.l0 kq x5_1 t382 (t382.length : Int) x18_1 a0_0 l0_1 = some (r1, r2)) ∧ Aside0 (kq ≤ k) ∧ Aside0 (Kd.R (Kd.int .u32) 51 w' w.heap.size (fun _ => True) (.slice Ao11 t382.length co11) t382) ∧ Aside0 (w'.heap[gb381]? = some (.cells #[.bool a0_0, (.slice A0_1 l0_1.length c0_1)] 24 (0, 0))) ∧ Aside0 (Below w.heap.size w w'))
  case atStart => exact ⟨(0), (0), (by first | rfl | (simp; done) | (simp [*]; done)), (by first | rfl | (simp; done) | (simp [*]; done)), H', ⟨Nat.le_refl _⟩, ⟨by (with_reducible repeat (first | apply Kd.R_alloc | apply Kd.R_drewN | apply Kd.R_drew)); exact HO384.out⟩, ⟨kb_ BK381.out⟩, ⟨bw_ HB.out⟩⟩
  case round =>
   clear H'
   try clear p2
   try clear c3
   try clear c3b0
   try clear c3b1
   try clear c6
   try clear hcz5_0 hcz5_1
   try clear hcz9_0 hcz9_1
   try clear hfz5_0 hfz5_1
   try clear hfz9_0 hfz9_1
   obtain ⟨x5_1, x18_1, rfl, rfl, HA, HK1, HO_16, BK381, HB⟩ := hrel
   cases gk with
   | zero => exact absurd HA.out (by simp [whole_Int.l0])
   | succ k1 =>
    have H := HA.out
    clear HA
    simp only [whole_Int.l0] at H
    by_cases c12 : x18_1 < (t382.length : Int)
    ·rw [if_pos c12] at H
     have c12b0 : decide (x18_1 < (t382.length : Int)) = true := decide_eq_true c12
     clear c12
     by_cases c13 : 0 ≤ x18_1
     ·rw [if_pos c13] at H
      have c13b0 : decide (0 ≤ x18_1) = true := decide_eq_true c13
      clear c13
      by_cases c14 : x18_1 < (t382.length : Int)
      ·rw [if_pos c14] at H
       have c14b0 : decide (x18_1 < (t382.length : Int)) = true := decide_eq_true c14
       clear c14
       obtain ⟨ji15, hji15⟩ : ∃ j_ : Int, (wrap64 (32 * x18_1)) = j_ := ⟨_, rfl⟩
       (first | rw [hji15] at H | simp only [hji15] at H)
       have hji15w : (IntKind.i64.wrap (32 * x18_1)) = ji15 := (i64_w _).trans hji15
       by_cases c16 : 0 ≤ (ji15)
       ·rw [if_pos c16] at H
        have c16b0 := eq_true c16
        have c16b1 : decide (0 ≤ (ji15)) = true := decide_eq_true c16
        clear c16
        obtain ⟨ji17, hji17⟩ : ∃ j_ : Int, (shl .u64 (IntKind.u64.wrap (rd t382 x18_1)) (ji15)) = j_ := ⟨_, rfl⟩
        (first | rw [hji17] at H | simp only [hji17] at H)
        have hji17_ : (IntKind.u64.wrap ((IntKind.u64.wrap (rd t382 x18_1)) * 2 ^ min (ji15).toNat 64)) = ji17 := hji17
        have hji17z : (ji15) ≤ 64 → (IntKind.u64.wrap ((IntKind.u64.wrap (rd t382 x18_1)) * 2 ^ (ji15).toNat)) = ji17 := shl_small hji17
        have H' := Aside0.mk H
        clear H
        have p385 : 0 ≤ (x18_1 : Int) := of_decide_eq_true (by first | (with_reducible assumption) | assumption)
        have q385 : x18_1 < (t382.length : Int) := of_decide_eq_true (by first | (with_reducible assumption) | assumption)
        obtain ⟨ad385, e385, hx385_0⟩ := Kd.at_int (Kd.R_reads' HO_16.out).2.2 x18_1 p385 q385
        cases e385
        replace p385 := eq_true p385
        replace q385 := eq_true q385
        go_wp2
        go_roundg k1
        case measure => have := HK1.out; omega
        case rel => exact ⟨(Go.bits .or .u64 x5_1 (ji17)), (wrap64 (x18_1 + 1)), (by first | rfl | (simp; done) | (simp only [← hji17] <;> (first | rfl | simp)) | (simp [*]; done)), (by first | rfl | (simp; done) | (simp [*]; done)), H', ⟨by have := HK1.out; omega⟩, ⟨by (with_reducible repeat (first | apply Kd.R_alloc | apply Kd.R_drewN | apply Kd.R_drew)); exact HO_16.out⟩, ⟨kb_ BK381.out⟩, ⟨bw_ HB.out⟩⟩
       ·rw [if_neg c16] at H
        exact absurd H (by simp)
      ·rw [if_neg c14] at H
       exact absurd H (by simp)
     ·rw [if_neg c13] at H
      exact absurd H (by simp)
    ·rw [if_neg c12] at H
     have c12b0 : decide (x18_1 < (t382.length : Int)) = false := decide_eq_false c12
     clear c12
     by_cases c18 : a0_0 = true
     ·subst c18
      have H1 : (if (wrap64 (-(wrap64 (x5_1)))) = 0 then (if x5_1 = 0 then (some (wrap64 (-(wrap64 (x5_1))), true)) else (some (0, false))) else (if x5_1 = 0 then (some (0, false)) else (if (((decide ((wrap64 (-(wrap64 (x5_1)))) < 0)) == true) = true) then (some (wrap64 (-(wrap64 (x5_1))), true)) else (some (0, false))))) = some (r1, r2) := by rw [if_pos rfl] at H; exact H
      clear H
      have H := H1
      clear H1
      by_cases c19 : (wrap64 (-(wrap64 (x5_1)))) = 0
      ·rw [if_pos c19] at H
       have c19b0 : ((wrap64 (-(wrap64 (x5_1)))) == 0) = true := beq_iff_eq.mpr c19
       have c19b1 : ((wrap64 (-(wrap64 (x5_1)))) != 0) = false := bne_eq_false_iff_eq.mpr c19
       clear c19
       by_cases c20 : x5_1 = 0
       ·rw [if_pos c20] at H
        have c20b0 : (x5_1 == 0) = true := beq_iff_eq.mpr c20
        have c20b1 : (x5_1 != 0) = false := bne_eq_false_iff_eq.mpr c20
        clear c20
        simp only [Option.some.injEq, Prod.mk.injEq] at H
        obtain ⟨rfl, rfl⟩ := H
        obtain ⟨hcz21_0, hcz21_1, hfz21_0, hfz21_1⟩ := c2_ BK381
        go_wp2
        go_ret2
        exact ⟨rf_, bw_ HB.out⟩
       ·rw [if_neg c20] at H
        have c20b0 : (x5_1 == 0) = false := beq_eq_false_iff_ne.mpr c20
        have c20b1 : (x5_1 != 0) = true := bne_iff_ne.mpr c20
        simp only [Option.some.injEq, Prod.mk.injEq] at H
        obtain ⟨rfl, rfl⟩ := H
        obtain ⟨hcz22_0, hcz22_1, hfz22_0, hfz22_1⟩ := c2_ BK381
        go_wp2
        go_ret2
        exact ⟨rf_, bw_ HB.out⟩
      ·rw [if_neg c19] at H
       have c19b0 : ((wrap64 (-(wrap64 (x5_1)))) == 0) = false := beq_eq_false_iff_ne.mpr c19
       have c19b1 : ((wrap64 (-(wrap64 (x5_1)))) != 0) = true := bne_iff_ne.mpr c19
       by_cases c23 : x5_1 = 0
       ·rw [if_pos c23] at H
        have c23b0 : (x5_1 == 0) = true := beq_iff_eq.mpr c23
        have c23b1 : (x5_1 != 0) = false := bne_eq_false_iff_eq.mpr c23
        clear c23
        simp only [Option.some.injEq, Prod.mk.injEq] at H
        obtain ⟨rfl, rfl⟩ := H
        obtain ⟨hcz24_0, hcz24_1, hfz24_0, hfz24_1⟩ := c2_ BK381
        go_wp2
        go_ret2
        exact ⟨rf_, bw_ HB.out⟩
       ·rw [if_neg c23] at H
        have c23b0 : (x5_1 == 0) = false := beq_eq_false_iff_ne.mpr c23
        have c23b1 : (x5_1 != 0) = true := bne_iff_ne.mpr c23
        by_cases c25 : (((decide ((wrap64 (-(wrap64 (x5_1)))) < 0)) == true) = true)
        ·rw [if_pos c25] at H
         have c25b0 : ((decide ((wrap64 (-(wrap64 (x5_1)))) < 0)) == true) = true := c25
         (try (have c25b1 : decide ((decide ((wrap64 (-(wrap64 (x5_1)))) < 0)) = true) = true := by simpa using c25))
         (try (have c25b2 : ((decide ((wrap64 (-(wrap64 (x5_1)))) < 0)) == true) = true := by simpa using c25))
         clear c25
         simp only [Option.some.injEq, Prod.mk.injEq] at H
         obtain ⟨rfl, rfl⟩ := H
         obtain ⟨hcz26_0, hcz26_1, hfz26_0, hfz26_1⟩ := c2_ BK381
         go_wp2
         go_ret2
         exact ⟨rf_, bw_ HB.out⟩
        ·rw [if_neg c25] at H
         have c25b0 : ((decide ((wrap64 (-(wrap64 (x5_1)))) < 0)) == true) = false := by simpa using c25
         (try (have c25b1 : decide ((decide ((wrap64 (-(wrap64 (x5_1)))) < 0)) = true) = false := by simpa using c25))
         (try (have c25b2 : ((decide ((wrap64 (-(wrap64 (x5_1)))) < 0)) == true) = false := by simpa using c25))
         (try (have c25b3 : ¬ ((decide ((wrap64 (-(wrap64 (x5_1)))) < 0)) = true) := by simpa using c25))
         clear c25
         simp only [Option.some.injEq, Prod.mk.injEq] at H
         obtain ⟨rfl, rfl⟩ := H
         obtain ⟨hcz27_0, hcz27_1, hfz27_0, hfz27_1⟩ := c2_ BK381
         go_wp2
         go_ret2
         exact ⟨rf_, bw_ HB.out⟩
     ·replace c18 := Bool.eq_false_iff.mpr c18
      subst c18
      have H1 : (if (wrap64 (x5_1)) = 0 then (if x5_1 = 0 then (some (wrap64 (x5_1), true)) else (some (0, false))) else (if x5_1 = 0 then (some (0, false)) else (if (((decide ((wrap64 (x5_1)) < 0)) == false) = true) then (some (wrap64 (x5_1), true)) else (some (0, false))))) = some (r1, r2) := by rw [if_neg (show ¬ (false = true) by decide)] at H; exact H
      clear H
      have H := H1
      clear H1
      by_cases c28 : (wrap64 (x5_1)) = 0
      ·rw [if_pos c28] at H
       have c28b0 : ((wrap64 (x5_1)) == 0) = true := beq_iff_eq.mpr c28
       have c28b1 : ((wrap64 (x5_1)) != 0) = false := bne_eq_false_iff_eq.mpr c28
       clear c28
       by_cases c29 : x5_1 = 0
       ·rw [if_pos c29] at H
        have c29b0 : (x5_1 == 0) = true := beq_iff_eq.mpr c29
        have c29b1 : (x5_1 != 0) = false := bne_eq_false_iff_eq.mpr c29
        clear c29
        simp only [Option.some.injEq, Prod.mk.injEq] at H
        obtain ⟨rfl, rfl⟩ := H
        obtain ⟨hcz30_0, hcz30_1, hfz30_0, hfz30_1⟩ := c2_ BK381
        go_wp2
        go_ret2
        exact ⟨rf_, bw_ HB.out⟩
       ·rw [if_neg c29] at H
        have c29b0 : (x5_1 == 0) = false := beq_eq_false_iff_ne.mpr c29
        have c29b1 : (x5_1 != 0) = true := bne_iff_ne.mpr c29
        simp only [Option.some.injEq, Prod.mk.injEq] at H
        obtain ⟨rfl, rfl⟩ := H
        obtain ⟨hcz31_0, hcz31_1, hfz31_0, hfz31_1⟩ := c2_ BK381
        go_wp2
        go_ret2
        exact ⟨rf_, bw_ HB.out⟩
      ·rw [if_neg c28] at H
       have c28b0 : ((wrap64 (x5_1)) == 0) = false := beq_eq_false_iff_ne.mpr c28
       have c28b1 : ((wrap64 (x5_1)) != 0) = true := bne_iff_ne.mpr c28
       by_cases c32 : x5_1 = 0
       ·rw [if_pos c32] at H
        have c32b0 : (x5_1 == 0) = true := beq_iff_eq.mpr c32
        have c32b1 : (x5_1 != 0) = false := bne_eq_false_iff_eq.mpr c32
        clear c32
        simp only [Option.some.injEq, Prod.mk.injEq] at H
        obtain ⟨rfl, rfl⟩ := H
        obtain ⟨hcz33_0, hcz33_1, hfz33_0, hfz33_1⟩ := c2_ BK381
        go_wp2
        go_ret2
        exact ⟨rf_, bw_ HB.out⟩
       ·rw [if_neg c32] at H
        have c32b0 : (x5_1 == 0) = false := beq_eq_false_iff_ne.mpr c32
        have c32b1 : (x5_1 != 0) = true := bne_iff_ne.mpr c32
        by_cases c34 : (((decide ((wrap64 (x5_1)) < 0)) == false) = true)
        ·rw [if_pos c34] at H
         have c34b0 : ((decide ((wrap64 (x5_1)) < 0)) == false) = true := c34
         (try (have c34b9 : ((decide ((wrap64 (x5_1)) < 0)) == false) = true := by simpa using c34))
         (try (have c34b1 : decide ((decide ((wrap64 (x5_1)) < 0)) = false) = true := by simpa using c34))
         (try (have c34b2 : ((decide ((wrap64 (x5_1)) < 0)) == false) = true := by simpa using c34))
         clear c34
         simp only [Option.some.injEq, Prod.mk.injEq] at H
         obtain ⟨rfl, rfl⟩ := H
         obtain ⟨hcz35_0, hcz35_1, hfz35_0, hfz35_1⟩ := c2_ BK381
         go_wp2
         go_ret2
         exact ⟨rf_, bw_ HB.out⟩
        ·rw [if_neg c34] at H
         have c34b0 : ((decide ((wrap64 (x5_1)) < 0)) == false) = false := by simpa using c34
         (try (have c34b9 : ((decide ((wrap64 (x5_1)) < 0)) == false) = false := by simpa using c34))
         (try (have c34b1 : decide ((decide ((wrap64 (x5_1)) < 0)) = false) = false := by simpa using c34))
         (try (have c34b2 : ((decide ((wrap64 (x5_1)) < 0)) == false) = false := by simpa using c34))
         (try (have c34b3 : ¬ ((decide ((wrap64 (x5_1)) < 0)) = false) := by simpa using c34))
         clear c34
         simp only [Option.some.injEq, Prod.mk.injEq] at H
         obtain ⟨rfl, rfl⟩ := H
         obtain ⟨hcz36_0, hcz36_1, hfz36_0, hfz36_1⟩ := c2_ BK381
         go_wp2
         go_ret2
         exact ⟨rf_, bw_ HB.out⟩

end Go.Proofs.YtaookeneeemfbaaDoor.PA
