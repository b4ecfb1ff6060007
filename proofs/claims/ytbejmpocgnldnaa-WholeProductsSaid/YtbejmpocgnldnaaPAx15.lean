-- Laid by this work's own program; Lean checks it.
import Derived.Test.YtbejmpocgnldnaaPAx0
import Derived.Test.YtbejmpocgnldnaaPAx1
import Derived.Test.YtbejmpocgnldnaaPAx9
import Derived.Test.YtbejmpocgnldnaaPAx10
import Derived.Test.YtbejmpocgnldnaaPAx11
import Derived.Test.YtbejmpocgnldnaaPAx14
namespace Go.Proofs.Ytbejmpocgnldnaa.PA
open Go.RowKit Go.Proofs.YtbejmpocgnldnaaW.PrintWords Go.Proofs.YtbejmpocgnldnaaW.PrintLast Go.Proofs.YtbejmpocgnldnaaW.PrintMore
attribute [local go_sem] max2_int min2_int max_two min_two max_three min_three max_four min_four   -- for this text's walks alone
set_option linter.unusedVariables false
set_option linter.unusedSimpArgs false

attribute [local go_sem ↓ high] isSome_set_
/-! ### pelorusref02_Div: function 12 -/
set_option maxHeartbeats 8000000 in
set_option maxRecDepth 100000 in
theorem pelorusref02_Div.calls (k : Nat) (a0_0 : Bool) (A0_1 : Option Addr) (c0_1 : Nat) (l0_1 : List Int) (a1_0 : Bool) (A1_1 : Option Addr) (c1_1 : Nat) (l1_1 : List Int) (r1 : Bool) (r2 : List Int) (r3 : Bool) (r4 : List Int) (r5 : Bool) (w : World) (hr0_1 : Kd.C (Kd.int .u32) w A0_1 l0_1.length l0_1) (hc0_1 : l0_1.length ≤ c0_1) (hr1_1 : Kd.C (Kd.int .u32) w A1_1 l1_1.length l1_1) (hc1_1 : l1_1.length ≤ c1_1) (h : pelorusref02_Div.f k a0_0 l0_1 a1_0 l1_1 = some (r1, r2, r3, r4, r5)) :
  Calls Try.prog 12 #[.agg #[.bool a0_0, .slice A0_1 l0_1.length c0_1], .agg #[.bool a1_0, .slice A1_1 l1_1.length c1_1]] w fun e w' => ∃ v1_ v3_ : Value, e = .returned (.tuple #[.agg #[.bool r1, v1_], .agg #[.bool r3, v3_], .bool r5]) ∧ Kd.R (Kd.int .u32) 47 w' w.heap.size (fun k_ => some k_ ≠ (v3_ : Value).ownBlock) v1_ r2 ∧ Kd.R (Kd.int .u32) 47 w' w.heap.size (fun k_ => some k_ ≠ (v1_ : Value).ownBlock) v3_ r4 ∧ Below w.heap.size w w' := by
 have hu24 := Try.underlying24
 have HR0_1 := Aside0.mk hr0_1
 have HC0_1 := Aside0.mk hc0_1
 clear hr0_1 hc0_1
 have HR1_1 := Aside0.mk hr1_1
 have HC1_1 := Aside0.mk hc1_1
 clear hr1_1 hc1_1
 have HB := Aside0.mk (Below.refl w.heap.size w)
 have H : ((pelorusref02_Sign.f k a1_0 l1_1).bind fun t731 => (if t731 = 0 then (some (false, ([] : List Int), false, ([] : List Int), false)) else ((pelorusref01_Div.f k l0_1 l1_1).bind fun bt732 => ((pelorusref02_Make.f k (a0_0 != a1_0) bt732.1).bind fun bt739 => ((pelorusref02_Make.f k a0_0 bt732.2.1).bind fun bt744 => ((pelorusref02_Sign.f k bt744.1 bt744.2).bind fun t749 => (if t749 = (wrap64 (-t731)) then ((pelorusref02_From.f k (-1)).bind fun bt750 => ((pelorusref02_Add.f k bt739.1 bt739.2 bt750.1 bt750.2).bind fun bt754 => ((pelorusref02_Add.f k bt744.1 bt744.2 a1_0 l1_1).bind fun bt758 => (some (bt754.1, bt754.2, bt758.1, bt758.2, true))))) else (some (bt739.1, bt739.2, bt744.1, bt744.2, true))))))))) = some (r1, r2, r3, r4, r5) := h
 clear h
 replace H := Option.bind_eq_some_iff.mp H
 obtain ⟨t731, A30, H⟩ := H
 (try dsimp only at H)
 have A3 := Aside0.mk A30
 clear A30
 by_cases c4 : t731 = 0
 ·rw [if_pos c4] at H
  have c4b0 : (t731 == 0) = true := beq_iff_eq.mpr c4
  have c4b1 : (t731 != 0) = false := bne_eq_false_iff_eq.mpr c4
  clear c4
  simp only [Option.some.injEq, Prod.mk.injEq] at H
  obtain ⟨rfl, rfl, rfl, rfl, rfl⟩ := H
  go_enter Try.func12, Try.ntmps12
  try go_wp2_with (first | ((with_reducible refine gate_dst (N := 2) rfl ?_); refine bx_ 2 #[.bool a0_0, .slice A0_1 l0_1.length c0_1] 24 ?_; intro gb726 hg w5 hbox hb; have BK726 := Aside0.mk (hbox); have GW726 := ge_ hg HB; have GE726 := ge_ hg HB; replace HB := bq_ HB hb; clear hb hbox hg) | ((with_reducible refine gate_dst (N := 3) rfl ?_); refine bx_ 3 #[.bool a1_0, .slice A1_1 l1_1.length c1_1] 24 ?_; intro gb727 hg w6 hbox hb; have BK727 := Aside0.mk (hbox); have GW727 := ge_ hg HB; have GE727 := ge_ hg HB; have NB726_727 := nb_ hg BK726; have NB727_726 := nc_ hg BK726; replace BK726 := kq_ BK726 hb; replace HB := bq_ HB hb; clear hb hbox hg) | ((with_reducible refine gate_dst (N := 4) rfl ?_); refine bx_ 4 #[.bool false, .slice none 0 0] 24 ?_; intro gb728 hg w7 hbox hb; have BK728 := Aside0.mk (hbox); have GW728 := ge_ hg HB; have GE728 := ge_ hg HB; have NB726_728 := nb_ hg BK726; have NB728_726 := nc_ hg BK726; have NB727_728 := nb_ hg BK727; have NB728_727 := nc_ hg BK727; replace BK726 := kq_ BK726 hb; replace BK727 := kq_ BK727 hb; replace HB := bq_ HB hb; clear hb hbox hg) | ((with_reducible refine gate_dst (N := 5) rfl ?_); refine bx_ 5 #[.bool false, .slice none 0 0] 24 ?_; intro gb729 hg w8 hbox hb; have BK729 := Aside0.mk (hbox); have GW729 := ge_ hg HB; have GE729 := ge_ hg HB; have NB726_729 := nb_ hg BK726; have NB729_726 := nc_ hg BK726; have NB727_729 := nb_ hg BK727; have NB729_727 := nc_ hg BK727; have NB728_729 := nb_ hg BK728; have NB729_728 := nc_ hg BK728; replace BK726 := kq_ BK726 hb; replace BK727 := kq_ BK727 hb; replace BK728 := kq_ BK728 hb; replace HB := bq_ HB hb; clear hb hbox hg) | ((with_reducible refine gate_dst (N := 7) rfl ?_); refine bx_ 7 #[.bool false, .slice none 0 0] 24 ?_; intro gb730 hg w9 hbox hb; have BK730 := Aside0.mk (hbox); have GW730 := ge_ hg HB; have GE730 := ge_ hg HB; have NB726_730 := nb_ hg BK726; have NB730_726 := nc_ hg BK726; have NB727_730 := nb_ hg BK727; have NB730_727 := nc_ hg BK727; have NB728_730 := nb_ hg BK728; have NB730_728 := nc_ hg BK728; have NB729_730 := nb_ hg BK729; have NB730_729 := nc_ hg BK729; replace BK726 := kq_ BK726 hb; replace BK727 := kq_ BK727 hb; replace BK728 := kq_ BK728 hb; replace BK729 := kq_ BK729 hb; replace HB := bq_ HB hb; clear hb hbox hg; have hnb10 := NB730_726.out; have hnc10 := NB726_730.out; have hnb11 := NB730_727.out; have hnc11 := NB727_730.out; have hnb12 := NB730_728.out; have hnc12 := NB728_730.out; have hnb13 := NB730_729.out; have hnc13 := NB729_730.out; obtain ⟨hcz14_0, hcz14_1, hfz14_0, hfz14_1⟩ := c2_ BK730; have hnb15 := NB727_726.out; have hnc15 := NB726_727.out; have hnb16 := NB727_728.out; have hnc16 := NB728_727.out; have hnb17 := NB727_729.out; have hnc17 := NB729_727.out; obtain ⟨hcz18_0, hcz18_1, hfz18_0, hfz18_1⟩ := c2_ BK727) | ((with_reducible refine gate_callee (f := 34) rfl ?_); refine gl_ (some 16) Try.func34 #[.agg #[.bool a1_0, .slice A1_1 l1_1.length c1_1]] ?_; (with_reducible refine (pelorusref02_Sign.calls k a1_0 _ _ l1_1 t731 _ ?side1 ?side2 A3.out).mono ?_); (case side1 => exact Kd.C_below HR1_1.out (bw_ HB.out)); (case side2 => exact HC1_1.out); rintro e w19 ⟨rfl, hb⟩; refine ⟨_, rfl, ?_⟩; have n0_ := Aside0.mk (blk_below (g := gb726) (o := .cells #[.bool a0_0, .slice A0_1 l0_1.length c0_1] 24 (0, 0)) (by refine kb_ ?_; refine bf_ NB726_730 ?_; refine bf_ NB726_730 ?_; exact BK726.out) hb); have n1_ := Aside0.mk (blk_below (g := gb727) (o := .cells #[.bool a1_0, .slice A1_1 l1_1.length c1_1] 24 (0, 0)) (by refine kb_ ?_; refine bf_ NB727_730 ?_; refine bf_ NB727_730 ?_; exact BK727.out) hb); have n2_ := Aside0.mk (blk_below (g := gb728) (o := .cells #[.bool false, .slice none 0 0] 24 (0, 0)) (by refine kb_ ?_; refine bf_ NB728_730 ?_; refine bf_ NB728_730 ?_; exact BK728.out) hb); have n3_ := Aside0.mk (blk_below (g := gb729) (o := .cells #[.bool false, .slice none 0 0] 24 (0, 0)) (by refine kb_ ?_; refine bf_ NB729_730 ?_; refine bf_ NB729_730 ?_; exact BK729.out) hb); have n4_ := Aside0.mk (blk_below (g := gb730) (o := .cells #[.bool false, .slice none 0 0] 24 (0, 0)) (by refine kb_ ?_; refine bp_ #[.bool false, .slice none 0 0] 1 ?_; refine bp_ #[.bool false, .slice none 0 0] 0 ?_; exact BK730.out) hb); have n5_ := bq_ HB hb; clear BK726; clear BK727; clear BK728; clear BK729; clear BK730; clear HB; have BK726 := n0_; have BK727 := n1_; have BK728 := n2_; have BK729 := n3_; have BK730 := n4_; have HB := n5_; clear n0_ n1_ n2_ n3_ n4_ n5_; (try clear hb); (try clear hb2); (try clear hk); (try clear hi)))
  replace BK726 := Aside0.mk (blk_drew BK726.out)
  replace BK727 := Aside0.mk (blk_drew BK727.out)
  replace BK728 := Aside0.mk (blk_drew BK728.out)
  replace BK729 := Aside0.mk (blk_drew BK729.out)
  replace BK730 := Aside0.mk (blk_drew BK730.out)
  replace HB := Aside0.mk (below_drew1 HB.out)
  refine start_ (n := 5) (S := fun w' => w'.cell? ⟨gb730, 0, none⟩ = some (.bool false) ∧ w'.cell? ⟨gb730, 1, none⟩ = some (.slice none 0 0)) (ds := []) #[false, false, false, false, false] (by kernel_rfl) rfl rfl ⟨(blk_cell BK730.out 0).trans rfl, (blk_cell BK730.out 1).trans rfl⟩ (fun hHeld => ?_)
  generalize w19.drew = w20 at BK726 BK727 BK728 BK729 BK730 HB hHeld ⊢
  refine take_ (i := 0) (N := some 19) (v := ?_) (a' := ?_) #[true, false, false, false, false] rfl rfl (by kernel_rfl) (fun _ _ _ h => h) (Or.inl ⟨by rfl, ?_⟩) hHeld ?_ ?_
  rotate_left
  ·rintro w' ⟨s0, s1⟩
   go_simp
   with_reducible rfl
  rotate_left
  ·exact pt_
  refine take_ (i := 1) (N := some 20) (v := ?_) (a' := ?_) #[true, true, false, false, false] rfl rfl (by kernel_rfl) (fun _ _ _ h => h) (Or.inl ⟨by rfl, ?_⟩) hHeld ?_ ?_
  rotate_left
  ·rintro w' ⟨s0, s1⟩
   go_simp
   with_reducible rfl
  rotate_left
  ·exact pt_
  refine one_ (i := 2) (N := none) #[true, true, true, false, false] rfl rfl (by kernel_rfl) (by decide) (fun K hK => ?_)
  have hs21 : w20.cell? ⟨gb728, 0, none⟩ = some (.bool false) := (blk_cell BK728.out 0).trans rfl
  have hfs21 := fz_ BK728 0
  have hns21_0 := NB726_728.out
  have hns21_1 := NB727_728.out
  have hns21_3 := NB729_728.out
  have hns21_4 := NB730_728.out
  have hms21_0 := NB728_726.out
  have hms21_1 := NB728_727.out
  have hms21_3 := NB728_729.out
  have hms21_4 := NB728_730.out
  have hs22 : w20.cell? ⟨gb728, 1, none⟩ = some (.slice none 0 0) := (blk_cell BK728.out 1).trans rfl
  have hfs22 := fz_ BK728 1
  have hns22_0 := NB726_728.out
  have hns22_1 := NB727_728.out
  have hns22_3 := NB729_728.out
  have hns22_4 := NB730_728.out
  have hms22_0 := NB728_726.out
  have hms22_1 := NB728_727.out
  have hms22_3 := NB728_729.out
  have hms22_4 := NB728_730.out
  refine skip_ (w1 := ?_) (by rfl) rfl ?_ ?_
  rotate_left
  ·go_simp
   rfl
  refine hK.out _ _ ⟨((cell_far (p := ⟨gb728, _, none⟩) NB730_728.out _).trans (((cell_far (p := ⟨gb728, _, none⟩) NB730_728.out _).trans (hHeld.1)))), ((cell_far (p := ⟨gb728, _, none⟩) NB730_728.out _).trans (((cell_far (p := ⟨gb728, _, none⟩) NB730_728.out _).trans (hHeld.2))))⟩ (fun hHeld => ?_)
  clear hK K
  refine one_ (i := 3) (N := none) #[true, true, true, true, false] rfl rfl (by kernel_rfl) (by decide) (fun K hK => ?_)
  have hs23 : w20.cell? ⟨gb729, 0, none⟩ = some (.bool false) := (blk_cell BK729.out 0).trans rfl
  have hfs23 := fz_ BK729 0
  have hns23_0 := NB726_729.out
  have hns23_1 := NB727_729.out
  have hns23_2 := NB728_729.out
  have hns23_4 := NB730_729.out
  have hms23_0 := NB729_726.out
  have hms23_1 := NB729_727.out
  have hms23_2 := NB729_728.out
  have hms23_4 := NB729_730.out
  have hs24 : w20.cell? ⟨gb729, 1, none⟩ = some (.slice none 0 0) := (blk_cell BK729.out 1).trans rfl
  have hfs24 := fz_ BK729 1
  have hns24_0 := NB726_729.out
  have hns24_1 := NB727_729.out
  have hns24_2 := NB728_729.out
  have hns24_4 := NB730_729.out
  have hms24_0 := NB729_726.out
  have hms24_1 := NB729_727.out
  have hms24_2 := NB729_728.out
  have hms24_4 := NB729_730.out
  refine skip_ (w1 := ?_) (by rfl) rfl ?_ ?_
  rotate_left
  ·go_simp
   rfl
  refine hK.out _ _ ⟨((cell_far (p := ⟨gb729, _, none⟩) NB730_729.out _).trans (((cell_far (p := ⟨gb729, _, none⟩) NB730_729.out _).trans (hHeld.1)))), ((cell_far (p := ⟨gb729, _, none⟩) NB730_729.out _).trans (((cell_far (p := ⟨gb729, _, none⟩) NB730_729.out _).trans (hHeld.2))))⟩ (fun hHeld => ?_)
  clear hK K
  refine pure_ (i := 4) (N := some 6) (v := ?_) (a' := ?_) #[true, true, true, true, true] rfl rfl (by kernel_rfl) (fun _ _ _ h => h) (Or.inl ⟨by rfl, ?_⟩) ?_ ?_
  rotate_left
  ·intro w'
   go_simp
   with_reducible rfl
  rotate_left
  ·exact pt_
  refine done_ (by kernel_rfl) ?_
  try go_wp2
  refine bodyPost_ret (results_list (rs := [.cell 4 24, .cell 5 24, .tmp 6]) rfl (by simp) (.cell gb728 24 #[.bool false, .slice none 0 0] (0, 0) _ rfl (by refine kb_ ?_; refine bf_ NB728_729 ?_; refine bf_ NB728_729 ?_; refine bp_ #[.bool false, .slice none 0 0] 1 ?_; refine bp_ #[.bool false, .slice none 0 0] 0 ?_; exact BK728.out) Try.underlying24 rfl (by kernel_rfl) (.cell gb729 24 #[.bool false, .slice none 0 0] (0, 0) _ rfl (by refine kb_ ?_; refine bp_ #[.bool false, .slice none 0 0] 1 ?_; refine bp_ #[.bool false, .slice none 0 0] 0 ?_; refine bf_ NB729_728 ?_; refine bf_ NB729_728 ?_; exact BK729.out) Try.underlying24 rfl (by kernel_rfl) (.tmp .nil)))) rfl ?_
  exact ⟨_, _, rf_, by first | exact Kd.R_nil _ _ _ _ _ | exact Kd.N_nil _ _ _ _ _ | exact Kd.V_nil _ _ _ _ _ | exact Kd.Q_nil _ _ _ _ _ | exact Kd.S_nil _ _ _ _ _, by first | exact Kd.R_nil _ _ _ _ _ | exact Kd.N_nil _ _ _ _ _ | exact Kd.V_nil _ _ _ _ _ | exact Kd.Q_nil _ _ _ _ _ | exact Kd.S_nil _ _ _ _ _, bw_ HB.out⟩
 ·rw [if_neg c4] at H
  have c4b0 : (t731 == 0) = false := beq_eq_false_iff_ne.mpr c4
  have c4b1 : (t731 != 0) = true := bne_iff_ne.mpr c4
  replace H := Option.bind_eq_some_iff.mp H
  obtain ⟨⟨t732, t733, t734⟩, A250, H⟩ := H
  (try dsimp only at H)
  have A25 := Aside0.mk A250
  clear A250
  replace H := Option.bind_eq_some_iff.mp H
  obtain ⟨⟨t739, t740⟩, A260, H⟩ := H
  (try dsimp only at H)
  have A26 := Aside0.mk A260
  clear A260
  replace H := Option.bind_eq_some_iff.mp H
  obtain ⟨⟨t744, t745⟩, A270, H⟩ := H
  (try dsimp only at H)
  have A27 := Aside0.mk A270
  clear A270
  replace H := Option.bind_eq_some_iff.mp H
  obtain ⟨t749, A280, H⟩ := H
  (try dsimp only at H)
  have A28 := Aside0.mk A280
  clear A280
  by_cases c29 : t749 = (wrap64 (-t731))
  ·rw [if_pos c29] at H
   have c29b0 : (t749 == (wrap64 (-t731))) = true := beq_iff_eq.mpr c29
   have c29b1 : (t749 != (wrap64 (-t731))) = false := bne_eq_false_iff_eq.mpr c29
   clear c29
   replace H := Option.bind_eq_some_iff.mp H
   obtain ⟨⟨t750, t751⟩, A300, H⟩ := H
   (try dsimp only at H)
   have A30 := Aside0.mk A300
   clear A300
   replace H := Option.bind_eq_some_iff.mp H
   obtain ⟨⟨t754, t755⟩, A310, H⟩ := H
   (try dsimp only at H)
   have A31 := Aside0.mk A310
   clear A310
   replace H := Option.bind_eq_some_iff.mp H
   obtain ⟨⟨t758, t759⟩, A320, H⟩ := H
   (try dsimp only at H)
   have A32 := Aside0.mk A320
   clear A320
   simp only [Option.some.injEq, Prod.mk.injEq] at H
   obtain ⟨rfl, rfl, rfl, rfl, rfl⟩ := H
   go_enter Try.func12, Try.ntmps12
   try go_wp2_with (first | ((with_reducible refine gate_dst (N := 2) rfl ?_); refine bx_ 2 #[.bool a0_0, .slice A0_1 l0_1.length c0_1] 24 ?_; intro gb726 hg w33 hbox hb; have BK726 := Aside0.mk (hbox); have GW726 := ge_ hg HB; have GE726 := ge_ hg HB; replace HB := bq_ HB hb; clear hb hbox hg) | ((with_reducible refine gate_dst (N := 3) rfl ?_); refine bx_ 3 #[.bool a1_0, .slice A1_1 l1_1.length c1_1] 24 ?_; intro gb727 hg w34 hbox hb; have BK727 := Aside0.mk (hbox); have GW727 := ge_ hg HB; have GE727 := ge_ hg HB; have NB726_727 := nb_ hg BK726; have NB727_726 := nc_ hg BK726; replace BK726 := kq_ BK726 hb; replace HB := bq_ HB hb; clear hb hbox hg) | ((with_reducible refine gate_dst (N := 4) rfl ?_); refine bx_ 4 #[.bool false, .slice none 0 0] 24 ?_; intro gb728 hg w35 hbox hb; have BK728 := Aside0.mk (hbox); have GW728 := ge_ hg HB; have GE728 := ge_ hg HB; have NB726_728 := nb_ hg BK726; have NB728_726 := nc_ hg BK726; have NB727_728 := nb_ hg BK727; have NB728_727 := nc_ hg BK727; replace BK726 := kq_ BK726 hb; replace BK727 := kq_ BK727 hb; replace HB := bq_ HB hb; clear hb hbox hg) | ((with_reducible refine gate_dst (N := 5) rfl ?_); refine bx_ 5 #[.bool false, .slice none 0 0] 24 ?_; intro gb729 hg w36 hbox hb; have BK729 := Aside0.mk (hbox); have GW729 := ge_ hg HB; have GE729 := ge_ hg HB; have NB726_729 := nb_ hg BK726; have NB729_726 := nc_ hg BK726; have NB727_729 := nb_ hg BK727; have NB729_727 := nc_ hg BK727; have NB728_729 := nb_ hg BK728; have NB729_728 := nc_ hg BK728; replace BK726 := kq_ BK726 hb; replace BK727 := kq_ BK727 hb; replace BK728 := kq_ BK728 hb; replace HB := bq_ HB hb; clear hb hbox hg) | ((with_reducible refine gate_dst (N := 7) rfl ?_); refine bx_ 7 #[.bool false, .slice none 0 0] 24 ?_; intro gb730 hg w37 hbox hb; have BK730 := Aside0.mk (hbox); have GW730 := ge_ hg HB; have GE730 := ge_ hg HB; have NB726_730 := nb_ hg BK726; have NB730_726 := nc_ hg BK726; have NB727_730 := nb_ hg BK727; have NB730_727 := nc_ hg BK727; have NB728_730 := nb_ hg BK728; have NB730_728 := nc_ hg BK728; have NB729_730 := nb_ hg BK729; have NB730_729 := nc_ hg BK729; replace BK726 := kq_ BK726 hb; replace BK727 := kq_ BK727 hb; replace BK728 := kq_ BK728 hb; replace BK729 := kq_ BK729 hb; replace HB := bq_ HB hb; clear hb hbox hg; have hnb38 := NB730_726.out; have hnc38 := NB726_730.out; have hnb39 := NB730_727.out; have hnc39 := NB727_730.out; have hnb40 := NB730_728.out; have hnc40 := NB728_730.out; have hnb41 := NB730_729.out; have hnc41 := NB729_730.out; obtain ⟨hcz42_0, hcz42_1, hfz42_0, hfz42_1⟩ := c2_ BK730; have hnb43 := NB727_726.out; have hnc43 := NB726_727.out; have hnb44 := NB727_728.out; have hnc44 := NB728_727.out; have hnb45 := NB727_729.out; have hnc45 := NB729_727.out; obtain ⟨hcz46_0, hcz46_1, hfz46_0, hfz46_1⟩ := c2_ BK727) | ((with_reducible refine gate_callee (f := 34) rfl ?_); refine gl_ (some 16) Try.func34 #[.agg #[.bool a1_0, .slice A1_1 l1_1.length c1_1]] ?_; (with_reducible refine (pelorusref02_Sign.calls k a1_0 _ _ l1_1 t731 _ ?side1 ?side2 A3.out).mono ?_); (case side1 => exact Kd.C_below HR1_1.out (bw_ HB.out)); (case side2 => exact HC1_1.out); rintro e w47 ⟨rfl, hb⟩; refine ⟨_, rfl, ?_⟩; have n0_ := Aside0.mk (blk_below (g := gb726) (o := .cells #[.bool a0_0, .slice A0_1 l0_1.length c0_1] 24 (0, 0)) (by refine kb_ ?_; refine bf_ NB726_730 ?_; refine bf_ NB726_730 ?_; exact BK726.out) hb); have n1_ := Aside0.mk (blk_below (g := gb727) (o := .cells #[.bool a1_0, .slice A1_1 l1_1.length c1_1] 24 (0, 0)) (by refine kb_ ?_; refine bf_ NB727_730 ?_; refine bf_ NB727_730 ?_; exact BK727.out) hb); have n2_ := Aside0.mk (blk_below (g := gb728) (o := .cells #[.bool false, .slice none 0 0] 24 (0, 0)) (by refine kb_ ?_; refine bf_ NB728_730 ?_; refine bf_ NB728_730 ?_; exact BK728.out) hb); have n3_ := Aside0.mk (blk_below (g := gb729) (o := .cells #[.bool false, .slice none 0 0] 24 (0, 0)) (by refine kb_ ?_; refine bf_ NB729_730 ?_; refine bf_ NB729_730 ?_; exact BK729.out) hb); have n4_ := Aside0.mk (blk_below (g := gb730) (o := .cells #[.bool false, .slice none 0 0] 24 (0, 0)) (by refine kb_ ?_; refine bp_ #[.bool false, .slice none 0 0] 1 ?_; refine bp_ #[.bool false, .slice none 0 0] 0 ?_; exact BK730.out) hb); have n5_ := bq_ HB hb; clear BK726; clear BK727; clear BK728; clear BK729; clear BK730; clear HB; have BK726 := n0_; have BK727 := n1_; have BK728 := n2_; have BK729 := n3_; have BK730 := n4_; have HB := n5_; clear n0_ n1_ n2_ n3_ n4_ n5_; (try clear hb); (try clear hb2); (try clear hk); (try clear hi); have hnb48 := NB726_728.out; have hnc48 := NB728_726.out; have hnb49 := NB726_729.out; have hnc49 := NB729_726.out; obtain ⟨hcz50_0, hcz50_1, hfz50_0, hfz50_1⟩ := c2_ BK726; obtain ⟨hcz51_0, hcz51_1, hfz51_0, hfz51_1⟩ := c2_ BK727) | ((with_reducible refine gate_callee (f := 36) rfl ?_); refine gl_ (some 26) Try.func36 #[.slice A0_1 l0_1.length c0_1, .slice A1_1 l1_1.length c1_1] ?_; (with_reducible refine (pelorusref01_Div.calls k _ _ l0_1 _ _ l1_1 t732 t733 t734 _ ?side1 ?side2 ?side3 ?side4 A25.out).mono ?_); (case side1 => exact kc_ (Kd.C_below HR0_1.out HB.out)); (case side2 => exact HC0_1.out); (case side3 => exact kc_ (Kd.C_below HR1_1.out HB.out)); (case side4 => exact HC1_1.out); rintro e w52 ⟨v735, v737, rfl, ho0, ho1, hb⟩; refine ⟨_, rfl, ?_⟩; have HO736 := Aside0.mk (Kd.R_lower ho0 (below_size (bw_ HB.out))); have HO738 := Aside0.mk (Kd.R_lower ho1 (below_size (bw_ HB.out))); replace BK726 := kq_ BK726 hb; replace BK727 := kq_ BK727 hb; replace BK728 := kq_ BK728 hb; replace BK729 := kq_ BK729 hb; replace BK730 := kq_ BK730 hb; replace HB := bq_ HB hb; (try clear hb); (try clear hb2); (try clear hk); (try clear hi); (try clear ho0); (try clear ho1); obtain ⟨hcz53_0, hcz53_1, hfz53_0, hfz53_1⟩ := c2_ BK726; obtain ⟨hcz54_0, hcz54_1, hfz54_0, hfz54_1⟩ := c2_ BK727; obtain ⟨Ao55, co55, eo55⟩ := Kd.R_slice HO736.out; subst eo55) | ((with_reducible refine gate_callee (f := 20) rfl ?_); refine gl_ (some 36) Try.func20 #[.bool (a0_0 != a1_0), .slice Ao55 t732.length co55] ?_; (with_reducible refine (pelorusref02_Make.calls k (a0_0 != a1_0) _ _ t732 t739 t740 _ ?side1 ?side2 A26.out).mono ?_); (case side1 => exact kc_ (Kd.R_reads' HO736.out).2.2); (case side2 => exact (Kd.R_reads' HO736.out).2.1); rintro e w56 ⟨v741, rfl, ho0, hb⟩; refine ⟨_, rfl, ?_⟩; have HO742 := Aside0.mk (Kd.R_lower (Kd.R_new' (Kd.R_new' ho0 (Kd.R_lt (kr_ HO736.out))) (Kd.R_lt (kr_ HO738.out))) (below_size (bw_ HB.out))); replace HO736 := Aside0.mk (Kd.R_elder' (kr_ HO736.out) (Kd.R_base ho0) hb); replace HO738 := Aside0.mk (Kd.R_elder' (kr_ HO738.out) (Kd.R_base ho0) hb); replace BK726 := kq_ BK726 hb; replace BK727 := kq_ BK727 hb; replace BK728 := kq_ BK728 hb; replace BK729 := kq_ BK729 hb; replace BK730 := kq_ BK730 hb; replace HB := bq_ HB hb; (try clear hb); (try clear hb2); (try clear hk); (try clear hi); (try clear ho0)) | ((with_reducible refine gate_dst (N := 12) rfl ?_); refine bx_ 12 #[.bool false, .slice none 0 0] 24 ?_; intro gb743 hg w57 hbox hb; have BK743 := Aside0.mk (hbox); have GW743 := ge_ hg HB; have GE743 := ge_ hg HB; have NB726_743 := nb_ hg BK726; have NB743_726 := nc_ hg BK726; have NB727_743 := nb_ hg BK727; have NB743_727 := nc_ hg BK727; have NB728_743 := nb_ hg BK728; have NB743_728 := nc_ hg BK728; have NB729_743 := nb_ hg BK729; have NB743_729 := nc_ hg BK729; have NB730_743 := nb_ hg BK730; have NB743_730 := nc_ hg BK730; replace HO736 := Aside0.mk (Kd.R_below (kr_ HO736.out) hb); replace HO738 := Aside0.mk (Kd.R_below (kr_ HO738.out) hb); replace HO742 := Aside0.mk (Kd.R_below (kr_ HO742.out) hb); replace BK726 := kq_ BK726 hb; replace BK727 := kq_ BK727 hb; replace BK728 := kq_ BK728 hb; replace BK729 := kq_ BK729 hb; replace BK730 := kq_ BK730 hb; replace HB := bq_ HB hb; clear hb hbox hg; have hnb58 := NB743_726.out; have hnc58 := NB726_743.out; have hnb59 := NB743_727.out; have hnc59 := NB727_743.out; have hnb60 := NB743_728.out; have hnc60 := NB728_743.out; have hnb61 := NB743_729.out; have hnc61 := NB729_743.out; have hnb62 := NB743_730.out; have hnc62 := NB730_743.out; obtain ⟨hcz63_0, hcz63_1, hfz63_0, hfz63_1⟩ := c2_ BK743; obtain ⟨Ao64, co64, eo64⟩ := Kd.R_slice HO742.out; subst eo64; obtain ⟨hcz65_0, hcz65_1, hfz65_0, hfz65_1⟩ := c2_ BK726; obtain ⟨Ao66, co66, eo66⟩ := Kd.R_slice HO738.out; subst eo66) | ((with_reducible refine gate_callee (f := 20) rfl ?_); refine gl_ (some 40) Try.func20 #[.bool a0_0, .slice Ao66 t733.length co66] ?_; (with_reducible refine (pelorusref02_Make.calls k a0_0 _ _ t733 t744 t745 _ ?side1 ?side2 A27.out).mono ?_); (case side1 => refine (Kd.R_reads' (e := 47) (base := w.heap.size) (ok := fun k_ => (some k_ ≠ (.slice Ao55 t732.length co55 : Value).ownBlock ∧ some k_ ≠ (.slice Ao64 t740.length co64 : Value).ownBlock)) (n := t733.length) (c := co66) ?_).2.2; exact (kr_ ((Kd.R_mono (Kd.R_far (p := ⟨gb743, 1, none⟩) (Kd.R_far (p := ⟨gb743, 0, none⟩) (Kd.R_types HO738.out BK743.out (by decide)) (fun _ hk => hk.2) (.bool t739)) (fun _ hk => hk.2) (.slice Ao64 t740.length co64)) (fun _ h_ => h_.1))))); (case side2 => exact (Kd.R_reads' HO738.out).2.1); rintro e w67 ⟨v746, rfl, ho0, hb⟩; refine ⟨_, rfl, ?_⟩; have n0_ := Aside0.mk (Kd.R_elder' (kr_ ((Kd.R_mono (Kd.R_far (p := ⟨gb743, 1, none⟩) (Kd.R_far (p := ⟨gb743, 0, none⟩) (Kd.R_types HO736.out BK743.out (by decide)) (fun _ hk => hk.2) (.bool t739)) (fun _ hk => hk.2) (.slice Ao64 t740.length co64)) (fun _ h_ => h_.1)))) (Kd.R_base ho0) hb); have n1_ := Aside0.mk (Kd.R_elder' (kr_ ((Kd.R_mono (Kd.R_far (p := ⟨gb743, 1, none⟩) (Kd.R_far (p := ⟨gb743, 0, none⟩) (Kd.R_types HO738.out BK743.out (by decide)) (fun _ hk => hk.2) (.bool t739)) (fun _ hk => hk.2) (.slice Ao64 t740.length co64)) (fun _ h_ => h_.1)))) (Kd.R_base ho0) hb); have n2_ := Aside0.mk (Kd.R_elder' (kr_ ((Kd.R_mono (Kd.R_far (p := ⟨gb743, 1, none⟩) (Kd.R_far (p := ⟨gb743, 0, none⟩) (Kd.R_types HO742.out BK743.out (by decide)) (fun _ hk => hk.2) (.bool t739)) (fun _ hk => hk.2) (.slice Ao64 t740.length co64)) (fun _ h_ => h_.1)))) (Kd.R_base ho0) hb); have n3_ := Aside0.mk (Kd.R_lower (Kd.R_new' (Kd.R_new' (Kd.R_new' ho0 (Kd.R_lt (kr_ ((Kd.R_mono (Kd.R_far (p := ⟨gb743, 1, none⟩) (Kd.R_far (p := ⟨gb743, 0, none⟩) (Kd.R_types HO736.out BK743.out (by decide)) (fun _ hk => hk.2) (.bool t739)) (fun _ hk => hk.2) (.slice Ao64 t740.length co64)) (fun _ h_ => h_.1)))))) (Kd.R_lt (kr_ ((Kd.R_mono (Kd.R_far (p := ⟨gb743, 1, none⟩) (Kd.R_far (p := ⟨gb743, 0, none⟩) (Kd.R_types HO738.out BK743.out (by decide)) (fun _ hk => hk.2) (.bool t739)) (fun _ hk => hk.2) (.slice Ao64 t740.length co64)) (fun _ h_ => h_.1)))))) (Kd.R_lt (kr_ ((Kd.R_mono (Kd.R_far (p := ⟨gb743, 1, none⟩) (Kd.R_far (p := ⟨gb743, 0, none⟩) (Kd.R_types HO742.out BK743.out (by decide)) (fun _ hk => hk.2) (.bool t739)) (fun _ hk => hk.2) (.slice Ao64 t740.length co64)) (fun _ h_ => h_.1)))))) (below_size (bw_ HB.out))); have n4_ := Aside0.mk (blk_below (g := gb726) (o := .cells #[.bool a0_0, .slice A0_1 l0_1.length c0_1] 24 (0, 0)) (by refine kb_ ?_; refine bf_ NB726_743 ?_; refine bf_ NB726_743 ?_; exact BK726.out) hb); have n5_ := Aside0.mk (blk_below (g := gb727) (o := .cells #[.bool a1_0, .slice A1_1 l1_1.length c1_1] 24 (0, 0)) (by refine kb_ ?_; refine bf_ NB727_743 ?_; refine bf_ NB727_743 ?_; exact BK727.out) hb); have n6_ := Aside0.mk (blk_below (g := gb728) (o := .cells #[.bool false, .slice none 0 0] 24 (0, 0)) (by refine kb_ ?_; refine bf_ NB728_743 ?_; refine bf_ NB728_743 ?_; exact BK728.out) hb); have n7_ := Aside0.mk (blk_below (g := gb729) (o := .cells #[.bool false, .slice none 0 0] 24 (0, 0)) (by refine kb_ ?_; refine bf_ NB729_743 ?_; refine bf_ NB729_743 ?_; exact BK729.out) hb); have n8_ := Aside0.mk (blk_below (g := gb730) (o := .cells #[.bool false, .slice none 0 0] 24 (0, 0)) (by refine kb_ ?_; refine bf_ NB730_743 ?_; refine bf_ NB730_743 ?_; exact BK730.out) hb); have n9_ := Aside0.mk (blk_below (g := gb743) (o := .cells #[.bool t739, .slice Ao64 t740.length co64] 24 (0, 0)) (by refine kb_ ?_; refine bp_ #[.bool t739, .slice none 0 0] 1 ?_; refine bp_ #[.bool false, .slice none 0 0] 0 ?_; exact BK743.out) hb); have n10_ := bq_ HB hb; clear HO736; clear HO738; clear HO742; clear BK726; clear BK727; clear BK728; clear BK729; clear BK730; clear BK743; clear HB; have HO736 := n0_; have HO738 := n1_; have HO742 := n2_; have HO747 := n3_; have BK726 := n4_; have BK727 := n5_; have BK728 := n6_; have BK729 := n7_; have BK730 := n8_; have BK743 := n9_; have HB := n10_; clear n0_ n1_ n2_ n3_ n4_ n5_ n6_ n7_ n8_ n9_ n10_; (try clear hb); (try clear hb2); (try clear hk); (try clear hi); (try clear ho0)) | ((with_reducible refine gate_dst (N := 13) rfl ?_); refine bx_ 13 #[.bool false, .slice none 0 0] 24 ?_; intro gb748 hg w68 hbox hb; have BK748 := Aside0.mk (hbox); have GW748 := ge_ hg HB; have GE748 := ge_ hg HB; have NB726_748 := nb_ hg BK726; have NB748_726 := nc_ hg BK726; have NB727_748 := nb_ hg BK727; have NB748_727 := nc_ hg BK727; have NB728_748 := nb_ hg BK728; have NB748_728 := nc_ hg BK728; have NB729_748 := nb_ hg BK729; have NB748_729 := nc_ hg BK729; have NB730_748 := nb_ hg BK730; have NB748_730 := nc_ hg BK730; have NB743_748 := nb_ hg BK743; have NB748_743 := nc_ hg BK743; replace HO736 := Aside0.mk (Kd.R_below (kr_ HO736.out) hb); replace HO738 := Aside0.mk (Kd.R_below (kr_ HO738.out) hb); replace HO742 := Aside0.mk (Kd.R_below (kr_ HO742.out) hb); replace HO747 := Aside0.mk (Kd.R_below (kr_ HO747.out) hb); replace BK726 := kq_ BK726 hb; replace BK727 := kq_ BK727 hb; replace BK728 := kq_ BK728 hb; replace BK729 := kq_ BK729 hb; replace BK730 := kq_ BK730 hb; replace BK743 := kq_ BK743 hb; replace HB := bq_ HB hb; clear hb hbox hg; have hnb69 := NB748_726.out; have hnc69 := NB726_748.out; have hnb70 := NB748_727.out; have hnc70 := NB727_748.out; have hnb71 := NB748_728.out; have hnc71 := NB728_748.out; have hnb72 := NB748_729.out; have hnc72 := NB729_748.out; have hnb73 := NB748_730.out; have hnc73 := NB730_748.out; have hnb74 := NB748_743.out; have hnc74 := NB743_748.out; obtain ⟨hcz75_0, hcz75_1, hfz75_0, hfz75_1⟩ := c2_ BK748; obtain ⟨Ao76, co76, eo76⟩ := Kd.R_slice HO747.out; subst eo76) | ((with_reducible refine gate_callee (f := 34) rfl ?_); refine gl_ (some 42) Try.func34 #[.agg #[.bool t744, .slice Ao76 t745.length co76]] ?_; (with_reducible refine (pelorusref02_Sign.calls k t744 _ _ t745 t749 _ ?side1 ?side2 A28.out).mono ?_); (case side1 => refine (Kd.R_reads' (e := 47) (base := w.heap.size) (ok := fun k_ => (((True ∧ some k_ ≠ (.slice Ao55 t732.length co55 : Value).ownBlock) ∧ some k_ ≠ (.slice Ao66 t733.length co66 : Value).ownBlock) ∧ some k_ ≠ (.slice Ao64 t740.length co64 : Value).ownBlock)) (n := t745.length) (c := co76) ?_).2.2; exact (kr_ ((Kd.R_mono (Kd.R_far (p := ⟨gb748, 1, none⟩) (Kd.R_far (p := ⟨gb748, 0, none⟩) (Kd.R_types HO747.out BK748.out (by decide)) (fun _ hk => hk.2) (.bool t744)) (fun _ hk => hk.2) (.slice Ao76 t745.length co76)) (fun _ h_ => h_.1))))); (case side2 => exact (Kd.R_reads' HO747.out).2.1); rintro e w77 ⟨rfl, hb⟩; refine ⟨_, rfl, ?_⟩; have n0_ := Aside0.mk (Kd.R_below (kr_ ((Kd.R_mono (Kd.R_far (p := ⟨gb748, 1, none⟩) (Kd.R_far (p := ⟨gb748, 0, none⟩) (Kd.R_types HO736.out BK748.out (by decide)) (fun _ hk => hk.2) (.bool t744)) (fun _ hk => hk.2) (.slice Ao76 t745.length co76)) (fun _ h_ => h_.1)))) hb); have n1_ := Aside0.mk (Kd.R_below (kr_ ((Kd.R_mono (Kd.R_far (p := ⟨gb748, 1, none⟩) (Kd.R_far (p := ⟨gb748, 0, none⟩) (Kd.R_types HO738.out BK748.out (by decide)) (fun _ hk => hk.2) (.bool t744)) (fun _ hk => hk.2) (.slice Ao76 t745.length co76)) (fun _ h_ => h_.1)))) hb); have n2_ := Aside0.mk (Kd.R_below (kr_ ((Kd.R_mono (Kd.R_far (p := ⟨gb748, 1, none⟩) (Kd.R_far (p := ⟨gb748, 0, none⟩) (Kd.R_types HO742.out BK748.out (by decide)) (fun _ hk => hk.2) (.bool t744)) (fun _ hk => hk.2) (.slice Ao76 t745.length co76)) (fun _ h_ => h_.1)))) hb); have n3_ := Aside0.mk (Kd.R_below (kr_ ((Kd.R_mono (Kd.R_far (p := ⟨gb748, 1, none⟩) (Kd.R_far (p := ⟨gb748, 0, none⟩) (Kd.R_types HO747.out BK748.out (by decide)) (fun _ hk => hk.2) (.bool t744)) (fun _ hk => hk.2) (.slice Ao76 t745.length co76)) (fun _ h_ => h_.1)))) hb); have n4_ := Aside0.mk (blk_below (g := gb726) (o := .cells #[.bool a0_0, .slice A0_1 l0_1.length c0_1] 24 (0, 0)) (by refine kb_ ?_; refine bf_ NB726_748 ?_; refine bf_ NB726_748 ?_; exact BK726.out) hb); have n5_ := Aside0.mk (blk_below (g := gb727) (o := .cells #[.bool a1_0, .slice A1_1 l1_1.length c1_1] 24 (0, 0)) (by refine kb_ ?_; refine bf_ NB727_748 ?_; refine bf_ NB727_748 ?_; exact BK727.out) hb); have n6_ := Aside0.mk (blk_below (g := gb728) (o := .cells #[.bool false, .slice none 0 0] 24 (0, 0)) (by refine kb_ ?_; refine bf_ NB728_748 ?_; refine bf_ NB728_748 ?_; exact BK728.out) hb); have n7_ := Aside0.mk (blk_below (g := gb729) (o := .cells #[.bool false, .slice none 0 0] 24 (0, 0)) (by refine kb_ ?_; refine bf_ NB729_748 ?_; refine bf_ NB729_748 ?_; exact BK729.out) hb); have n8_ := Aside0.mk (blk_below (g := gb730) (o := .cells #[.bool false, .slice none 0 0] 24 (0, 0)) (by refine kb_ ?_; refine bf_ NB730_748 ?_; refine bf_ NB730_748 ?_; exact BK730.out) hb); have n9_ := Aside0.mk (blk_below (g := gb743) (o := .cells #[.bool t739, .slice Ao64 t740.length co64] 24 (0, 0)) (by refine kb_ ?_; refine bf_ NB743_748 ?_; refine bf_ NB743_748 ?_; exact BK743.out) hb); have n10_ := Aside0.mk (blk_below (g := gb748) (o := .cells #[.bool t744, .slice Ao76 t745.length co76] 24 (0, 0)) (by refine kb_ ?_; refine bp_ #[.bool t744, .slice none 0 0] 1 ?_; refine bp_ #[.bool false, .slice none 0 0] 0 ?_; exact BK748.out) hb); have n11_ := bq_ HB hb; clear HO736; clear HO738; clear HO742; clear HO747; clear BK726; clear BK727; clear BK728; clear BK729; clear BK730; clear BK743; clear BK748; clear HB; have HO736 := n0_; have HO738 := n1_; have HO742 := n2_; have HO747 := n3_; have BK726 := n4_; have BK727 := n5_; have BK728 := n6_; have BK729 := n7_; have BK730 := n8_; have BK743 := n9_; have BK748 := n10_; have HB := n11_; clear n0_ n1_ n2_ n3_ n4_ n5_ n6_ n7_ n8_ n9_ n10_ n11_; (try clear hb); (try clear hb2); (try clear hk); (try clear hi)))
   replace HO736 := Aside0.mk (Kd.R_drew HO736.out)
   replace HO738 := Aside0.mk (Kd.R_drew HO738.out)
   replace HO742 := Aside0.mk (Kd.R_drew HO742.out)
   replace HO747 := Aside0.mk (Kd.R_drew HO747.out)
   replace BK726 := Aside0.mk (blk_drew BK726.out)
   replace BK727 := Aside0.mk (blk_drew BK727.out)
   replace BK728 := Aside0.mk (blk_drew BK728.out)
   replace BK729 := Aside0.mk (blk_drew BK729.out)
   replace BK730 := Aside0.mk (blk_drew BK730.out)
   replace BK743 := Aside0.mk (blk_drew BK743.out)
   replace BK748 := Aside0.mk (blk_drew BK748.out)
   replace HB := Aside0.mk (below_drew1 HB.out)
   refine start_ (n := 4) (S := fun w' => w'.cell? ⟨gb743, 0, none⟩ = some (.bool t739) ∧ w'.cell? ⟨gb743, 1, none⟩ = some (.slice Ao64 t740.length co64)) (ds := [3]) #[false, false, false, false] (by kernel_rfl) rfl rfl ⟨(blk_cell BK743.out 0).trans rfl, (blk_cell BK743.out 1).trans rfl⟩ (fun hHeld => ?_)
   generalize w77.drew = w78 at HO736 HO738 HO742 HO747 BK726 BK727 BK728 BK729 BK730 BK743 BK748 HB hHeld ⊢
   refine take_ (i := 0) (N := some 46) (v := ?_) (a' := ?_) #[true, false, false, false] rfl rfl (by kernel_rfl) (fun _ _ _ h => h) (Or.inl ⟨by rfl, ?_⟩) hHeld ?_ ?_
   rotate_left
   ·rintro w' ⟨s0, s1⟩
    go_simp
    with_reducible rfl
   rotate_left
   ·exact pt_
   refine one_ (i := 1) (N := some 47) #[true, true, false, false] rfl rfl (by kernel_rfl) (by decide) (fun K hK => ?_)
   refine gs_ Try.func21 #[.int .i64 (-1)] ?_
   with_reducible refine (pelorusref02_From.calls k (-1) t750 t751 _ A30.out).mono ?_
   rintro e w79 ⟨v752, rfl, ho0, hb⟩
   refine ⟨_, rfl, ?_⟩
   have HO753 := Aside0.mk (Kd.R_lower (Kd.R_new' (Kd.R_new' (Kd.R_new' (Kd.R_new' ho0 (Kd.R_lt (kr_ HO736.out))) (Kd.R_lt (kr_ HO738.out))) (Kd.R_lt (kr_ HO742.out))) (Kd.R_lt (kr_ HO747.out))) (below_size (bw_ HB.out)))
   replace HO736 := Aside0.mk (Kd.R_elder' (kr_ HO736.out) (Kd.R_base ho0) hb)
   replace HO738 := Aside0.mk (Kd.R_elder' (kr_ HO738.out) (Kd.R_base ho0) hb)
   replace HO742 := Aside0.mk (Kd.R_elder' (kr_ HO742.out) (Kd.R_base ho0) hb)
   replace HO747 := Aside0.mk (Kd.R_elder' (kr_ HO747.out) (Kd.R_base ho0) hb)
   replace BK726 := kq_ BK726 hb
   replace BK727 := kq_ BK727 hb
   replace BK728 := kq_ BK728 hb
   replace BK729 := kq_ BK729 hb
   replace BK730 := kq_ BK730 hb
   replace BK743 := kq_ BK743 hb
   replace BK748 := kq_ BK748 hb
   replace HB := bq_ HB hb
   (try clear hb)
   (try clear hb2)
   (try clear hk)
   (try clear hi)
   (try clear ho0)
   obtain ⟨Ao80, co80, eo80⟩ := Kd.R_slice HO753.out
   (first | subst eo80 | (injection eo80 with f1_ f2_ f3_; have f4_ := f1_.symm; have f5_ := f3_.symm; clear f1_ f2_ f3_; subst f4_; subst f5_))
   refine hK.out _ _ ⟨(blk_cell BK743.out 0).trans rfl, (blk_cell BK743.out 1).trans rfl⟩ (fun hHeld => ?_)
   clear hK K
   refine norm_ (a' := ?_) ?_ ?_
   rotate_left
   ·show Act.put _ (some 47) _ = _
    exact pt_
   refine one_ (i := 2) (N := some 48) #[true, true, true, false] rfl rfl (by kernel_rfl) (by decide) (fun K hK => ?_)
   refine gs_ Try.func29 #[.agg #[.bool t739, .slice Ao64 t740.length co64], .agg #[.bool t750, .slice Ao80 t751.length co80]] ?_
   with_reducible refine (pelorusref02_Add.calls k t739 _ _ t740 t750 _ _ t751 t754 t755 _ ?side1 ?side2 ?side3 ?side4 A31.out).mono ?_
   (case side1 => exact kc_ (Kd.R_reads' HO742.out).2.2)
   (case side2 => exact (Kd.R_reads' HO742.out).2.1)
   (case side3 => exact kc_ (Kd.R_reads' HO753.out).2.2)
   (case side4 => exact (Kd.R_reads' HO753.out).2.1)
   rintro e w81 ⟨v756, rfl, ho0, hb⟩
   refine ⟨_, rfl, ?_⟩
   have HO757 := Aside0.mk (Kd.R_lower (Kd.R_new' (Kd.R_new' (Kd.R_new' (Kd.R_new' (Kd.R_new' ho0 (Kd.R_lt (kr_ HO736.out))) (Kd.R_lt (kr_ HO738.out))) (Kd.R_lt (kr_ HO742.out))) (Kd.R_lt (kr_ HO747.out))) (Kd.R_lt (kr_ HO753.out))) (below_size (bw_ HB.out)))
   replace HO736 := Aside0.mk (Kd.R_elder' (kr_ HO736.out) (Kd.R_base ho0) hb)
   replace HO738 := Aside0.mk (Kd.R_elder' (kr_ HO738.out) (Kd.R_base ho0) hb)
   replace HO742 := Aside0.mk (Kd.R_elder' (kr_ HO742.out) (Kd.R_base ho0) hb)
   replace HO747 := Aside0.mk (Kd.R_elder' (kr_ HO747.out) (Kd.R_base ho0) hb)
   replace HO753 := Aside0.mk (Kd.R_elder' (kr_ HO753.out) (Kd.R_base ho0) hb)
   replace BK726 := kq_ BK726 hb
   replace BK727 := kq_ BK727 hb
   replace BK728 := kq_ BK728 hb
   replace BK729 := kq_ BK729 hb
   replace BK730 := kq_ BK730 hb
   replace BK743 := kq_ BK743 hb
   replace BK748 := kq_ BK748 hb
   replace HB := bq_ HB hb
   (try clear hb)
   (try clear hb2)
   (try clear hk)
   (try clear hi)
   (try clear ho0)
   obtain ⟨Ao83, co83, eo83⟩ := Kd.R_slice HO757.out
   (first | subst eo83 | (injection eo83 with f1_ f2_ f3_; have f4_ := f1_.symm; have f5_ := f3_.symm; clear f1_ f2_ f3_; subst f4_; subst f5_))
   refine hK.out _ _ ⟨(blk_cell BK743.out 0).trans rfl, (blk_cell BK743.out 1).trans rfl⟩ (fun hHeld => ?_)
   clear hK K
   refine norm_ (a' := ?_) ?_ ?_
   rotate_left
   ·show Act.put _ (some 48) _ = _
    exact pt_
   refine last_ (i := 3) (N := none) #[true, true, true, true] rfl rfl (by kernel_rfl) (by decide) (fun K hK => ?_)
   have hs82 : w81.cell? ⟨gb743, 0, none⟩ = some (.bool t739) := (blk_cell BK743.out 0).trans rfl
   have hfs82 := fz_ BK743 0
   have hns82_0 := NB726_743.out
   have hns82_1 := NB727_743.out
   have hns82_2 := NB728_743.out
   have hns82_3 := NB729_743.out
   have hns82_4 := NB730_743.out
   have hns82_6 := NB748_743.out
   have hms82_0 := NB743_726.out
   have hms82_1 := NB743_727.out
   have hms82_2 := NB743_728.out
   have hms82_3 := NB743_729.out
   have hms82_4 := NB743_730.out
   have hms82_6 := NB743_748.out
   have hs84 : w81.cell? ⟨gb743, 1, none⟩ = some (.slice Ao64 t740.length co64) := (blk_cell BK743.out 1).trans rfl
   have hfs84 := fz_ BK743 1
   have hns84_0 := NB726_743.out
   have hns84_1 := NB727_743.out
   have hns84_2 := NB728_743.out
   have hns84_3 := NB729_743.out
   have hns84_4 := NB730_743.out
   have hns84_6 := NB748_743.out
   have hms84_0 := NB743_726.out
   have hms84_1 := NB743_727.out
   have hms84_2 := NB743_728.out
   have hms84_3 := NB743_729.out
   have hms84_4 := NB743_730.out
   have hms84_6 := NB743_748.out
   refine skip_ (w1 := ?_) (by rfl) rfl ?_ ?_
   rotate_left
   ·go_simp
    rfl
   refine hK.out _ _ ?_
   clear hK K
   refine done_ (by kernel_rfl) ?_
   obtain ⟨hcz85_0, hcz85_1, hfz85_0, hfz85_1⟩ := c2_ BK748
   obtain ⟨hcz86_0, hcz86_1, hfz86_0, hfz86_1⟩ := c2_ BK727
   try go_wp2_with (first | ((with_reducible refine gate_callee (f := 29) rfl ?_); refine gl_ (some 51) Try.func29 #[.agg #[.bool t744, .slice Ao76 t745.length co76], .agg #[.bool a1_0, .slice A1_1 l1_1.length c1_1]] ?_; (with_reducible refine (pelorusref02_Add.calls k t744 _ _ t745 a1_0 _ _ l1_1 t758 t759 _ ?side1 ?side2 ?side3 ?side4 A32.out).mono ?_); (case side1 => refine (Kd.R_reads' (e := 47) (base := w.heap.size) (ok := fun k_ => (((((True ∧ some k_ ≠ (.slice Ao55 t732.length co55 : Value).ownBlock) ∧ some k_ ≠ (.slice Ao66 t733.length co66 : Value).ownBlock) ∧ some k_ ≠ (.slice Ao64 t740.length co64 : Value).ownBlock) ∧ some k_ ≠ (.slice Ao80 t751.length co80 : Value).ownBlock) ∧ some k_ ≠ (.slice Ao83 t755.length co83 : Value).ownBlock)) (n := t745.length) (c := co76) ?_).2.2; exact (kr_ ((Kd.R_mono (Kd.R_far (p := ⟨gb743, 1, none⟩) (Kd.R_far (p := ⟨gb743, 0, none⟩) (Kd.R_types HO747.out BK743.out (by decide)) (fun _ hk => hk.2) (.bool t754)) (fun _ hk => hk.2) (.slice Ao83 t755.length co83)) (fun _ h_ => h_.1))))); (case side2 => exact (Kd.R_reads' HO747.out).2.1); (case side3 => exact Kd.C_below HR1_1.out (bw_ HB.out)); (case side4 => exact HC1_1.out); rintro e w87 ⟨v760, rfl, ho0, hb⟩; refine ⟨_, rfl, ?_⟩; have n0_ := Aside0.mk (Kd.R_elder' (kr_ ((Kd.R_mono (Kd.R_far (p := ⟨gb743, 1, none⟩) (Kd.R_far (p := ⟨gb743, 0, none⟩) (Kd.R_types HO736.out BK743.out (by decide)) (fun _ hk => hk.2) (.bool t754)) (fun _ hk => hk.2) (.slice Ao83 t755.length co83)) (fun _ h_ => h_.1)))) (Kd.R_base ho0) hb); have n1_ := Aside0.mk (Kd.R_elder' (kr_ ((Kd.R_mono (Kd.R_far (p := ⟨gb743, 1, none⟩) (Kd.R_far (p := ⟨gb743, 0, none⟩) (Kd.R_types HO738.out BK743.out (by decide)) (fun _ hk => hk.2) (.bool t754)) (fun _ hk => hk.2) (.slice Ao83 t755.length co83)) (fun _ h_ => h_.1)))) (Kd.R_base ho0) hb); have n2_ := Aside0.mk (Kd.R_elder' (kr_ ((Kd.R_mono (Kd.R_far (p := ⟨gb743, 1, none⟩) (Kd.R_far (p := ⟨gb743, 0, none⟩) (Kd.R_types HO742.out BK743.out (by decide)) (fun _ hk => hk.2) (.bool t754)) (fun _ hk => hk.2) (.slice Ao83 t755.length co83)) (fun _ h_ => h_.1)))) (Kd.R_base ho0) hb); have n3_ := Aside0.mk (Kd.R_elder' (kr_ ((Kd.R_mono (Kd.R_far (p := ⟨gb743, 1, none⟩) (Kd.R_far (p := ⟨gb743, 0, none⟩) (Kd.R_types HO747.out BK743.out (by decide)) (fun _ hk => hk.2) (.bool t754)) (fun _ hk => hk.2) (.slice Ao83 t755.length co83)) (fun _ h_ => h_.1)))) (Kd.R_base ho0) hb); have n4_ := Aside0.mk (Kd.R_elder' (kr_ ((Kd.R_mono (Kd.R_far (p := ⟨gb743, 1, none⟩) (Kd.R_far (p := ⟨gb743, 0, none⟩) (Kd.R_types HO753.out BK743.out (by decide)) (fun _ hk => hk.2) (.bool t754)) (fun _ hk => hk.2) (.slice Ao83 t755.length co83)) (fun _ h_ => h_.1)))) (Kd.R_base ho0) hb); have n5_ := Aside0.mk (Kd.R_elder' (kr_ ((Kd.R_mono (Kd.R_far (p := ⟨gb743, 1, none⟩) (Kd.R_far (p := ⟨gb743, 0, none⟩) (Kd.R_types HO757.out BK743.out (by decide)) (fun _ hk => hk.2) (.bool t754)) (fun _ hk => hk.2) (.slice Ao83 t755.length co83)) (fun _ h_ => h_.1)))) (Kd.R_base ho0) hb); have n6_ := Aside0.mk (Kd.R_lower (Kd.R_new' (Kd.R_new' (Kd.R_new' (Kd.R_new' (Kd.R_new' (Kd.R_new' ho0 (Kd.R_lt (kr_ ((Kd.R_mono (Kd.R_far (p := ⟨gb743, 1, none⟩) (Kd.R_far (p := ⟨gb743, 0, none⟩) (Kd.R_types HO736.out BK743.out (by decide)) (fun _ hk => hk.2) (.bool t754)) (fun _ hk => hk.2) (.slice Ao83 t755.length co83)) (fun _ h_ => h_.1)))))) (Kd.R_lt (kr_ ((Kd.R_mono (Kd.R_far (p := ⟨gb743, 1, none⟩) (Kd.R_far (p := ⟨gb743, 0, none⟩) (Kd.R_types HO738.out BK743.out (by decide)) (fun _ hk => hk.2) (.bool t754)) (fun _ hk => hk.2) (.slice Ao83 t755.length co83)) (fun _ h_ => h_.1)))))) (Kd.R_lt (kr_ ((Kd.R_mono (Kd.R_far (p := ⟨gb743, 1, none⟩) (Kd.R_far (p := ⟨gb743, 0, none⟩) (Kd.R_types HO742.out BK743.out (by decide)) (fun _ hk => hk.2) (.bool t754)) (fun _ hk => hk.2) (.slice Ao83 t755.length co83)) (fun _ h_ => h_.1)))))) (Kd.R_lt (kr_ ((Kd.R_mono (Kd.R_far (p := ⟨gb743, 1, none⟩) (Kd.R_far (p := ⟨gb743, 0, none⟩) (Kd.R_types HO747.out BK743.out (by decide)) (fun _ hk => hk.2) (.bool t754)) (fun _ hk => hk.2) (.slice Ao83 t755.length co83)) (fun _ h_ => h_.1)))))) (Kd.R_lt (kr_ ((Kd.R_mono (Kd.R_far (p := ⟨gb743, 1, none⟩) (Kd.R_far (p := ⟨gb743, 0, none⟩) (Kd.R_types HO753.out BK743.out (by decide)) (fun _ hk => hk.2) (.bool t754)) (fun _ hk => hk.2) (.slice Ao83 t755.length co83)) (fun _ h_ => h_.1)))))) (Kd.R_lt (kr_ ((Kd.R_mono (Kd.R_far (p := ⟨gb743, 1, none⟩) (Kd.R_far (p := ⟨gb743, 0, none⟩) (Kd.R_types HO757.out BK743.out (by decide)) (fun _ hk => hk.2) (.bool t754)) (fun _ hk => hk.2) (.slice Ao83 t755.length co83)) (fun _ h_ => h_.1)))))) (below_size (bw_ HB.out))); have n7_ := Aside0.mk (blk_below (g := gb726) (o := .cells #[.bool a0_0, .slice A0_1 l0_1.length c0_1] 24 (0, 0)) (by refine kb_ ?_; refine bf_ NB726_743 ?_; refine bf_ NB726_743 ?_; exact BK726.out) hb); have n8_ := Aside0.mk (blk_below (g := gb727) (o := .cells #[.bool a1_0, .slice A1_1 l1_1.length c1_1] 24 (0, 0)) (by refine kb_ ?_; refine bf_ NB727_743 ?_; refine bf_ NB727_743 ?_; exact BK727.out) hb); have n9_ := Aside0.mk (blk_below (g := gb728) (o := .cells #[.bool false, .slice none 0 0] 24 (0, 0)) (by refine kb_ ?_; refine bf_ NB728_743 ?_; refine bf_ NB728_743 ?_; exact BK728.out) hb); have n10_ := Aside0.mk (blk_below (g := gb729) (o := .cells #[.bool false, .slice none 0 0] 24 (0, 0)) (by refine kb_ ?_; refine bf_ NB729_743 ?_; refine bf_ NB729_743 ?_; exact BK729.out) hb); have n11_ := Aside0.mk (blk_below (g := gb730) (o := .cells #[.bool false, .slice none 0 0] 24 (0, 0)) (by refine kb_ ?_; refine bf_ NB730_743 ?_; refine bf_ NB730_743 ?_; exact BK730.out) hb); have n12_ := Aside0.mk (blk_below (g := gb743) (o := .cells #[.bool t754, .slice Ao83 t755.length co83] 24 (0, 0)) (by refine kb_ ?_; refine bp_ #[.bool t754, .slice Ao64 t740.length co64] 1 ?_; refine bp_ #[.bool t739, .slice Ao64 t740.length co64] 0 ?_; exact BK743.out) hb); have n13_ := Aside0.mk (blk_below (g := gb748) (o := .cells #[.bool t744, .slice Ao76 t745.length co76] 24 (0, 0)) (by refine kb_ ?_; refine bf_ NB748_743 ?_; refine bf_ NB748_743 ?_; exact BK748.out) hb); have n14_ := bq_ HB hb; clear HO736; clear HO738; clear HO742; clear HO747; clear HO753; clear HO757; clear BK726; clear BK727; clear BK728; clear BK729; clear BK730; clear BK743; clear BK748; clear HB; have HO736 := n0_; have HO738 := n1_; have HO742 := n2_; have HO747 := n3_; have HO753 := n4_; have HO757 := n5_; have HO761 := n6_; have BK726 := n7_; have BK727 := n8_; have BK728 := n9_; have BK729 := n10_; have BK730 := n11_; have BK743 := n12_; have BK748 := n13_; have HB := n14_; clear n0_ n1_ n2_ n3_ n4_ n5_ n6_ n7_ n8_ n9_ n10_ n11_ n12_ n13_ n14_; (try clear hb); (try clear hb2); (try clear hk); (try clear hi); (try clear ho0); obtain ⟨hcz88_0, hcz88_1, hfz88_0, hfz88_1⟩ := c2_ BK748; obtain ⟨Ao89, co89, eo89⟩ := Kd.R_slice HO761.out; subst eo89))
   have n0_ : Aside0 (Kd.R (Kd.int .u32) 47 ((w87.setCell ⟨gb748, 0, none⟩ (.bool t758)).setCell ⟨gb748, 1, none⟩ (.slice Ao89 t759.length co89)) w.heap.size (fun k_ => some k_ ≠ (.slice Ao66 t733.length co66 : Value).ownBlock ∧ some k_ ≠ (.slice Ao64 t740.length co64 : Value).ownBlock ∧ some k_ ≠ (.slice Ao76 t745.length co76 : Value).ownBlock ∧ some k_ ≠ (.slice Ao80 t751.length co80 : Value).ownBlock ∧ some k_ ≠ (.slice Ao83 t755.length co83 : Value).ownBlock ∧ some k_ ≠ (.slice Ao89 t759.length co89 : Value).ownBlock) (.slice Ao55 t732.length co55) t732) := ⟨by (with_reducible repeat (first | apply Kd.R_alloc | apply Kd.R_drewN | apply Kd.R_drew)); exact Kd.R_mono (Kd.R_far (p := ⟨gb748, 1, none⟩) (Kd.R_far (p := ⟨gb748, 0, none⟩) (Kd.R_types HO736.out BK748.out (by decide)) (fun _ hk => hk.2) (.bool t758)) (fun _ hk => hk.2) (.slice Ao89 t759.length co89)) (fun _ hk => ⟨hk.1.1.1.1.1.1, ⟨hk.1.1.1.1.1.2, ⟨hk.1.1.1.1.2, ⟨hk.1.1.1.2, ⟨hk.1.1.2, hk.1.2⟩⟩⟩⟩⟩)⟩
   have n1_ : Aside0 (Kd.R (Kd.int .u32) 47 ((w87.setCell ⟨gb748, 0, none⟩ (.bool t758)).setCell ⟨gb748, 1, none⟩ (.slice Ao89 t759.length co89)) w.heap.size (fun k_ => some k_ ≠ (.slice Ao55 t732.length co55 : Value).ownBlock ∧ some k_ ≠ (.slice Ao64 t740.length co64 : Value).ownBlock ∧ some k_ ≠ (.slice Ao76 t745.length co76 : Value).ownBlock ∧ some k_ ≠ (.slice Ao80 t751.length co80 : Value).ownBlock ∧ some k_ ≠ (.slice Ao83 t755.length co83 : Value).ownBlock ∧ some k_ ≠ (.slice Ao89 t759.length co89 : Value).ownBlock) (.slice Ao66 t733.length co66) t733) := ⟨by (with_reducible repeat (first | apply Kd.R_alloc | apply Kd.R_drewN | apply Kd.R_drew)); exact Kd.R_mono (Kd.R_far (p := ⟨gb748, 1, none⟩) (Kd.R_far (p := ⟨gb748, 0, none⟩) (Kd.R_types HO738.out BK748.out (by decide)) (fun _ hk => hk.2) (.bool t758)) (fun _ hk => hk.2) (.slice Ao89 t759.length co89)) (fun _ hk => ⟨hk.1.1.1.1.1.1, ⟨hk.1.1.1.1.1.2, ⟨hk.1.1.1.1.2, ⟨hk.1.1.1.2, ⟨hk.1.1.2, hk.1.2⟩⟩⟩⟩⟩)⟩
   have n2_ : Aside0 (Kd.R (Kd.int .u32) 47 ((w87.setCell ⟨gb748, 0, none⟩ (.bool t758)).setCell ⟨gb748, 1, none⟩ (.slice Ao89 t759.length co89)) w.heap.size (fun k_ => some k_ ≠ (.slice Ao55 t732.length co55 : Value).ownBlock ∧ some k_ ≠ (.slice Ao66 t733.length co66 : Value).ownBlock ∧ some k_ ≠ (.slice Ao76 t745.length co76 : Value).ownBlock ∧ some k_ ≠ (.slice Ao80 t751.length co80 : Value).ownBlock ∧ some k_ ≠ (.slice Ao83 t755.length co83 : Value).ownBlock ∧ some k_ ≠ (.slice Ao89 t759.length co89 : Value).ownBlock) (.slice Ao64 t740.length co64) t740) := ⟨by (with_reducible repeat (first | apply Kd.R_alloc | apply Kd.R_drewN | apply Kd.R_drew)); exact Kd.R_mono (Kd.R_far (p := ⟨gb748, 1, none⟩) (Kd.R_far (p := ⟨gb748, 0, none⟩) (Kd.R_types HO742.out BK748.out (by decide)) (fun _ hk => hk.2) (.bool t758)) (fun _ hk => hk.2) (.slice Ao89 t759.length co89)) (fun _ hk => ⟨hk.1.1.1.1.1.1.2, ⟨hk.1.1.1.1.1.2, ⟨hk.1.1.1.1.2, ⟨hk.1.1.1.2, ⟨hk.1.1.2, hk.1.2⟩⟩⟩⟩⟩)⟩
   have n3_ : Aside0 (Kd.R (Kd.int .u32) 47 ((w87.setCell ⟨gb748, 0, none⟩ (.bool t758)).setCell ⟨gb748, 1, none⟩ (.slice Ao89 t759.length co89)) w.heap.size (fun k_ => some k_ ≠ (.slice Ao55 t732.length co55 : Value).ownBlock ∧ some k_ ≠ (.slice Ao66 t733.length co66 : Value).ownBlock ∧ some k_ ≠ (.slice Ao64 t740.length co64 : Value).ownBlock ∧ some k_ ≠ (.slice Ao80 t751.length co80 : Value).ownBlock ∧ some k_ ≠ (.slice Ao83 t755.length co83 : Value).ownBlock ∧ some k_ ≠ (.slice Ao89 t759.length co89 : Value).ownBlock) (.slice Ao76 t745.length co76) t745) := ⟨by (with_reducible repeat (first | apply Kd.R_alloc | apply Kd.R_drewN | apply Kd.R_drew)); exact Kd.R_mono (Kd.R_far (p := ⟨gb748, 1, none⟩) (Kd.R_far (p := ⟨gb748, 0, none⟩) (Kd.R_types HO747.out BK748.out (by decide)) (fun _ hk => hk.2) (.bool t758)) (fun _ hk => hk.2) (.slice Ao89 t759.length co89)) (fun _ hk => ⟨hk.1.1.1.1.1.1.2, ⟨hk.1.1.1.1.1.2, ⟨hk.1.1.1.1.2, ⟨hk.1.1.1.2, ⟨hk.1.1.2, hk.1.2⟩⟩⟩⟩⟩)⟩
   have n4_ : Aside0 (Kd.R (Kd.int .u32) 47 ((w87.setCell ⟨gb748, 0, none⟩ (.bool t758)).setCell ⟨gb748, 1, none⟩ (.slice Ao89 t759.length co89)) w.heap.size (fun k_ => some k_ ≠ (.slice Ao55 t732.length co55 : Value).ownBlock ∧ some k_ ≠ (.slice Ao66 t733.length co66 : Value).ownBlock ∧ some k_ ≠ (.slice Ao64 t740.length co64 : Value).ownBlock ∧ some k_ ≠ (.slice Ao76 t745.length co76 : Value).ownBlock ∧ some k_ ≠ (.slice Ao83 t755.length co83 : Value).ownBlock ∧ some k_ ≠ (.slice Ao89 t759.length co89 : Value).ownBlock) (.slice Ao80 t751.length co80) t751) := ⟨by (with_reducible repeat (first | apply Kd.R_alloc | apply Kd.R_drewN | apply Kd.R_drew)); exact Kd.R_mono (Kd.R_far (p := ⟨gb748, 1, none⟩) (Kd.R_far (p := ⟨gb748, 0, none⟩) (Kd.R_types HO753.out BK748.out (by decide)) (fun _ hk => hk.2) (.bool t758)) (fun _ hk => hk.2) (.slice Ao89 t759.length co89)) (fun _ hk => ⟨hk.1.1.1.1.1.1.2, ⟨hk.1.1.1.1.1.2, ⟨hk.1.1.1.1.2, ⟨hk.1.1.1.2, ⟨hk.1.1.2, hk.1.2⟩⟩⟩⟩⟩)⟩
   have n5_ : Aside0 (Kd.R (Kd.int .u32) 47 ((w87.setCell ⟨gb748, 0, none⟩ (.bool t758)).setCell ⟨gb748, 1, none⟩ (.slice Ao89 t759.length co89)) w.heap.size (fun k_ => some k_ ≠ (.slice Ao55 t732.length co55 : Value).ownBlock ∧ some k_ ≠ (.slice Ao66 t733.length co66 : Value).ownBlock ∧ some k_ ≠ (.slice Ao64 t740.length co64 : Value).ownBlock ∧ some k_ ≠ (.slice Ao76 t745.length co76 : Value).ownBlock ∧ some k_ ≠ (.slice Ao80 t751.length co80 : Value).ownBlock ∧ some k_ ≠ (.slice Ao89 t759.length co89 : Value).ownBlock) (.slice Ao83 t755.length co83) t755) := ⟨by (with_reducible repeat (first | apply Kd.R_alloc | apply Kd.R_drewN | apply Kd.R_drew)); exact Kd.R_mono (Kd.R_far (p := ⟨gb748, 1, none⟩) (Kd.R_far (p := ⟨gb748, 0, none⟩) (Kd.R_types HO757.out BK748.out (by decide)) (fun _ hk => hk.2) (.bool t758)) (fun _ hk => hk.2) (.slice Ao89 t759.length co89)) (fun _ hk => ⟨hk.1.1.1.1.1.1.2, ⟨hk.1.1.1.1.1.2, ⟨hk.1.1.1.1.2, ⟨hk.1.1.1.2, ⟨hk.1.1.2, hk.1.2⟩⟩⟩⟩⟩)⟩
   have n6_ : Aside0 (Kd.R (Kd.int .u32) 47 ((w87.setCell ⟨gb748, 0, none⟩ (.bool t758)).setCell ⟨gb748, 1, none⟩ (.slice Ao89 t759.length co89)) w.heap.size (fun k_ => some k_ ≠ (.slice Ao55 t732.length co55 : Value).ownBlock ∧ some k_ ≠ (.slice Ao66 t733.length co66 : Value).ownBlock ∧ some k_ ≠ (.slice Ao64 t740.length co64 : Value).ownBlock ∧ some k_ ≠ (.slice Ao76 t745.length co76 : Value).ownBlock ∧ some k_ ≠ (.slice Ao80 t751.length co80 : Value).ownBlock ∧ some k_ ≠ (.slice Ao83 t755.length co83 : Value).ownBlock) (.slice Ao89 t759.length co89) t759) := ⟨by (with_reducible repeat (first | apply Kd.R_alloc | apply Kd.R_drewN | apply Kd.R_drew)); exact Kd.R_mono (Kd.R_far (p := ⟨gb748, 1, none⟩) (Kd.R_far (p := ⟨gb748, 0, none⟩) (Kd.R_types HO761.out BK748.out (by decide)) (fun _ hk => hk.2) (.bool t758)) (fun _ hk => hk.2) (.slice Ao89 t759.length co89)) (fun _ hk => ⟨hk.1.1.1.1.1.1.2, ⟨hk.1.1.1.1.1.2, ⟨hk.1.1.1.1.2, ⟨hk.1.1.1.2, ⟨hk.1.1.2, hk.1.2⟩⟩⟩⟩⟩)⟩
   have n7_ : Aside0 (((w87.setCell ⟨gb748, 0, none⟩ (.bool t758)).setCell ⟨gb748, 1, none⟩ (.slice Ao89 t759.length co89)).heap[gb726]? = some (.cells #[.bool a0_0, .slice A0_1 l0_1.length c0_1] 24 (0, 0))) := ⟨by refine kb_ ?_; refine bf_ NB726_748 ?_; refine bf_ NB726_748 ?_; exact BK726.out⟩
   have n8_ : Aside0 (((w87.setCell ⟨gb748, 0, none⟩ (.bool t758)).setCell ⟨gb748, 1, none⟩ (.slice Ao89 t759.length co89)).heap[gb727]? = some (.cells #[.bool a1_0, .slice A1_1 l1_1.length c1_1] 24 (0, 0))) := ⟨by refine kb_ ?_; refine bf_ NB727_748 ?_; refine bf_ NB727_748 ?_; exact BK727.out⟩
   have n9_ : Aside0 (((w87.setCell ⟨gb748, 0, none⟩ (.bool t758)).setCell ⟨gb748, 1, none⟩ (.slice Ao89 t759.length co89)).heap[gb728]? = some (.cells #[.bool false, .slice none 0 0] 24 (0, 0))) := ⟨by refine kb_ ?_; refine bf_ NB728_748 ?_; refine bf_ NB728_748 ?_; exact BK728.out⟩
   have n10_ : Aside0 (((w87.setCell ⟨gb748, 0, none⟩ (.bool t758)).setCell ⟨gb748, 1, none⟩ (.slice Ao89 t759.length co89)).heap[gb729]? = some (.cells #[.bool false, .slice none 0 0] 24 (0, 0))) := ⟨by refine kb_ ?_; refine bf_ NB729_748 ?_; refine bf_ NB729_748 ?_; exact BK729.out⟩
   have n11_ : Aside0 (((w87.setCell ⟨gb748, 0, none⟩ (.bool t758)).setCell ⟨gb748, 1, none⟩ (.slice Ao89 t759.length co89)).heap[gb730]? = some (.cells #[.bool false, .slice none 0 0] 24 (0, 0))) := ⟨by refine kb_ ?_; refine bf_ NB730_748 ?_; refine bf_ NB730_748 ?_; exact BK730.out⟩
   have n12_ : Aside0 (((w87.setCell ⟨gb748, 0, none⟩ (.bool t758)).setCell ⟨gb748, 1, none⟩ (.slice Ao89 t759.length co89)).heap[gb743]? = some (.cells #[.bool t754, .slice Ao83 t755.length co83] 24 (0, 0))) := ⟨by refine kb_ ?_; refine bf_ NB743_748 ?_; refine bf_ NB743_748 ?_; exact BK743.out⟩
   have n13_ : Aside0 (((w87.setCell ⟨gb748, 0, none⟩ (.bool t758)).setCell ⟨gb748, 1, none⟩ (.slice Ao89 t759.length co89)).heap[gb748]? = some (.cells #[.bool t758, .slice Ao89 t759.length co89] 24 (0, 0))) := ⟨by refine kb_ ?_; refine bp_ #[.bool t758, .slice Ao76 t745.length co76] 1 ?_; refine bp_ #[.bool t744, .slice Ao76 t745.length co76] 0 ?_; exact BK748.out⟩
   have n14_ : Aside0 (Below w.heap.size w ((w87.setCell ⟨gb748, 0, none⟩ (.bool t758)).setCell ⟨gb748, 1, none⟩ (.slice Ao89 t759.length co89))) := ⟨bw_ HB.out⟩
   (try clear HO736)
   (try clear HO738)
   (try clear HO742)
   (try clear HO747)
   (try clear HO753)
   (try clear HO757)
   (try clear HO761)
   (try clear BK726)
   (try clear BK727)
   (try clear BK728)
   (try clear BK729)
   (try clear BK730)
   (try clear BK743)
   (try clear BK748)
   (try clear HB)
   generalize ((w87.setCell ⟨gb748, 0, none⟩ (.bool t758)).setCell ⟨gb748, 1, none⟩ (.slice Ao89 t759.length co89)) = w90 at n0_ n1_ n2_ n3_ n4_ n5_ n6_ n7_ n8_ n9_ n10_ n11_ n12_ n13_ n14_ ⊢
   have HO736 := n0_
   have HO738 := n1_
   have HO742 := n2_
   have HO747 := n3_
   have HO753 := n4_
   have HO757 := n5_
   have HO761 := n6_
   have BK726 := n7_
   have BK727 := n8_
   have BK728 := n9_
   have BK729 := n10_
   have BK730 := n11_
   have BK743 := n12_
   have BK748 := n13_
   have HB := n14_
   clear n0_ n1_ n2_ n3_ n4_ n5_ n6_ n7_ n8_ n9_ n10_ n11_ n12_ n13_ n14_
   replace HO736 := Aside0.mk (Kd.R_drew HO736.out)
   replace HO738 := Aside0.mk (Kd.R_drew HO738.out)
   replace HO742 := Aside0.mk (Kd.R_drew HO742.out)
   replace HO747 := Aside0.mk (Kd.R_drew HO747.out)
   replace HO753 := Aside0.mk (Kd.R_drew HO753.out)
   replace HO757 := Aside0.mk (Kd.R_drew HO757.out)
   replace HO761 := Aside0.mk (Kd.R_drew HO761.out)
   replace BK726 := Aside0.mk (blk_drew BK726.out)
   replace BK727 := Aside0.mk (blk_drew BK727.out)
   replace BK728 := Aside0.mk (blk_drew BK728.out)
   replace BK729 := Aside0.mk (blk_drew BK729.out)
   replace BK730 := Aside0.mk (blk_drew BK730.out)
   replace BK743 := Aside0.mk (blk_drew BK743.out)
   replace BK748 := Aside0.mk (blk_drew BK748.out)
   replace HB := Aside0.mk (below_drew1 HB.out)
   refine start_ (n := 5) (S := fun w' => w'.cell? ⟨gb743, 0, none⟩ = some (.bool t754) ∧ w'.cell? ⟨gb743, 1, none⟩ = some (.slice Ao83 t755.length co83) ∧ w'.cell? ⟨gb748, 0, none⟩ = some (.bool t758) ∧ w'.cell? ⟨gb748, 1, none⟩ = some (.slice Ao89 t759.length co89)) (ds := []) #[false, false, false, false, false] (by kernel_rfl) rfl rfl ⟨(blk_cell BK743.out 0).trans rfl, (blk_cell BK743.out 1).trans rfl, (blk_cell BK748.out 0).trans rfl, (blk_cell BK748.out 1).trans rfl⟩ (fun hHeld => ?_)
   generalize w90.drew = w91 at HO736 HO738 HO742 HO747 HO753 HO757 HO761 BK726 BK727 BK728 BK729 BK730 BK743 BK748 HB hHeld ⊢
   refine take_ (i := 0) (N := some 52) (v := ?_) (a' := ?_) #[true, false, false, false, false] rfl rfl (by kernel_rfl) (fun _ _ _ h => h) (Or.inl ⟨by rfl, ?_⟩) hHeld ?_ ?_
   rotate_left
   ·rintro w' ⟨s0, s1, s2, s3⟩
    go_simp
    with_reducible rfl
   rotate_left
   ·exact pt_
   refine take_ (i := 1) (N := some 53) (v := ?_) (a' := ?_) #[true, true, false, false, false] rfl rfl (by kernel_rfl) (fun _ _ _ h => h) (Or.inl ⟨by rfl, ?_⟩) hHeld ?_ ?_
   rotate_left
   ·rintro w' ⟨s0, s1, s2, s3⟩
    go_simp
    with_reducible rfl
   rotate_left
   ·exact pt_
   refine one_ (i := 2) (N := none) #[true, true, true, false, false] rfl rfl (by kernel_rfl) (by decide) (fun K hK => ?_)
   have hs92 : w91.cell? ⟨gb728, 0, none⟩ = some (.bool false) := (blk_cell BK728.out 0).trans rfl
   have hfs92 := fz_ BK728 0
   have hns92_0 := NB726_728.out
   have hns92_1 := NB727_728.out
   have hns92_3 := NB729_728.out
   have hns92_4 := NB730_728.out
   have hns92_5 := NB743_728.out
   have hns92_6 := NB748_728.out
   have hms92_0 := NB728_726.out
   have hms92_1 := NB728_727.out
   have hms92_3 := NB728_729.out
   have hms92_4 := NB728_730.out
   have hms92_5 := NB728_743.out
   have hms92_6 := NB728_748.out
   have hs93 : w91.cell? ⟨gb728, 1, none⟩ = some (.slice none 0 0) := (blk_cell BK728.out 1).trans rfl
   have hfs93 := fz_ BK728 1
   have hns93_0 := NB726_728.out
   have hns93_1 := NB727_728.out
   have hns93_3 := NB729_728.out
   have hns93_4 := NB730_728.out
   have hns93_5 := NB743_728.out
   have hns93_6 := NB748_728.out
   have hms93_0 := NB728_726.out
   have hms93_1 := NB728_727.out
   have hms93_3 := NB728_729.out
   have hms93_4 := NB728_730.out
   have hms93_5 := NB728_743.out
   have hms93_6 := NB728_748.out
   refine skip_ (w1 := ?_) (by rfl) rfl ?_ ?_
   rotate_left
   ·go_simp
    rfl
   refine hK.out _ _ ⟨((cell_far (p := ⟨gb728, _, none⟩) NB743_728.out _).trans (((cell_far (p := ⟨gb728, _, none⟩) NB743_728.out _).trans (hHeld.1)))), ((cell_far (p := ⟨gb728, _, none⟩) NB743_728.out _).trans (((cell_far (p := ⟨gb728, _, none⟩) NB743_728.out _).trans (hHeld.2.1)))), ((cell_far (p := ⟨gb728, _, none⟩) NB748_728.out _).trans (((cell_far (p := ⟨gb728, _, none⟩) NB748_728.out _).trans (hHeld.2.2.1)))), ((cell_far (p := ⟨gb728, _, none⟩) NB748_728.out _).trans (((cell_far (p := ⟨gb728, _, none⟩) NB748_728.out _).trans (hHeld.2.2.2))))⟩ (fun hHeld => ?_)
   clear hK K
   refine one_ (i := 3) (N := none) #[true, true, true, true, false] rfl rfl (by kernel_rfl) (by decide) (fun K hK => ?_)
   have hs94 : w91.cell? ⟨gb729, 0, none⟩ = some (.bool false) := (blk_cell BK729.out 0).trans rfl
   have hfs94 := fz_ BK729 0
   have hns94_0 := NB726_729.out
   have hns94_1 := NB727_729.out
   have hns94_2 := NB728_729.out
   have hns94_4 := NB730_729.out
   have hns94_5 := NB743_729.out
   have hns94_6 := NB748_729.out
   have hms94_0 := NB729_726.out
   have hms94_1 := NB729_727.out
   have hms94_2 := NB729_728.out
   have hms94_4 := NB729_730.out
   have hms94_5 := NB729_743.out
   have hms94_6 := NB729_748.out
   have hs95 : w91.cell? ⟨gb729, 1, none⟩ = some (.slice none 0 0) := (blk_cell BK729.out 1).trans rfl
   have hfs95 := fz_ BK729 1
   have hns95_0 := NB726_729.out
   have hns95_1 := NB727_729.out
   have hns95_2 := NB728_729.out
   have hns95_4 := NB730_729.out
   have hns95_5 := NB743_729.out
   have hns95_6 := NB748_729.out
   have hms95_0 := NB729_726.out
   have hms95_1 := NB729_727.out
   have hms95_2 := NB729_728.out
   have hms95_4 := NB729_730.out
   have hms95_5 := NB729_743.out
   have hms95_6 := NB729_748.out
   refine skip_ (w1 := ?_) (by rfl) rfl ?_ ?_
   rotate_left
   ·go_simp
    rfl
   refine hK.out _ _ ⟨((cell_far (p := ⟨gb729, _, none⟩) NB743_729.out _).trans (((cell_far (p := ⟨gb729, _, none⟩) NB743_729.out _).trans (hHeld.1)))), ((cell_far (p := ⟨gb729, _, none⟩) NB743_729.out _).trans (((cell_far (p := ⟨gb729, _, none⟩) NB743_729.out _).trans (hHeld.2.1)))), ((cell_far (p := ⟨gb729, _, none⟩) NB748_729.out _).trans (((cell_far (p := ⟨gb729, _, none⟩) NB748_729.out _).trans (hHeld.2.2.1)))), ((cell_far (p := ⟨gb729, _, none⟩) NB748_729.out _).trans (((cell_far (p := ⟨gb729, _, none⟩) NB748_729.out _).trans (hHeld.2.2.2))))⟩ (fun hHeld => ?_)
   clear hK K
   refine pure_ (i := 4) (N := some 6) (v := ?_) (a' := ?_) #[true, true, true, true, true] rfl rfl (by kernel_rfl) (fun _ _ _ h => h) (Or.inl ⟨by rfl, ?_⟩) ?_ ?_
   rotate_left
   ·intro w'
    go_simp
    with_reducible rfl
   rotate_left
   ·exact pt_
   refine done_ (by kernel_rfl) ?_
   try go_wp2
   refine bodyPost_ret (results_list (rs := [.cell 4 24, .cell 5 24, .tmp 6]) rfl (by simp) (.cell gb728 24 #[.bool t754, .slice Ao83 t755.length co83] (0, 0) _ rfl (by refine kb_ ?_; refine bf_ NB728_729 ?_; refine bf_ NB728_729 ?_; refine bp_ #[.bool t754, .slice none 0 0] 1 ?_; refine bp_ #[.bool false, .slice none 0 0] 0 ?_; exact BK728.out) Try.underlying24 rfl (by kernel_rfl) (.cell gb729 24 #[.bool t758, .slice Ao89 t759.length co89] (0, 0) _ rfl (by refine kb_ ?_; refine bp_ #[.bool t758, .slice none 0 0] 1 ?_; refine bp_ #[.bool false, .slice none 0 0] 0 ?_; refine bf_ NB729_728 ?_; refine bf_ NB729_728 ?_; exact BK729.out) Try.underlying24 rfl (by kernel_rfl) (.tmp .nil)))) rfl ?_
   exact ⟨_, _, rf_, by (with_reducible repeat (first | apply Kd.R_alloc | apply Kd.R_drewN | apply Kd.R_drew)); exact Kd.R_mono (Kd.R_far (p := ⟨gb729, 1, none⟩) (Kd.R_far (p := ⟨gb729, 0, none⟩) (Kd.R_far (p := ⟨gb728, 1, none⟩) (Kd.R_far (p := ⟨gb728, 0, none⟩) (Kd.R_types (Kd.R_types HO757.out BK728.out (by decide)) BK729.out (by decide)) (fun _ hk => hk.1.2) (.bool t754)) (fun _ hk => hk.1.2) (.slice Ao83 t755.length co83)) (fun _ hk => hk.2) (.bool t758)) (fun _ hk => hk.2) (.slice Ao89 t759.length co89)) (fun _ hk => hk.1.1.2.2.2.2.2), by (with_reducible repeat (first | apply Kd.R_alloc | apply Kd.R_drewN | apply Kd.R_drew)); exact Kd.R_mono (Kd.R_far (p := ⟨gb729, 1, none⟩) (Kd.R_far (p := ⟨gb729, 0, none⟩) (Kd.R_far (p := ⟨gb728, 1, none⟩) (Kd.R_far (p := ⟨gb728, 0, none⟩) (Kd.R_types (Kd.R_types HO761.out BK728.out (by decide)) BK729.out (by decide)) (fun _ hk => hk.1.2) (.bool t754)) (fun _ hk => hk.1.2) (.slice Ao83 t755.length co83)) (fun _ hk => hk.2) (.bool t758)) (fun _ hk => hk.2) (.slice Ao89 t759.length co89)) (fun _ hk => hk.1.1.2.2.2.2.2), bw_ HB.out⟩
  ·rw [if_neg c29] at H
   have c29b0 : (t749 == (wrap64 (-t731))) = false := beq_eq_false_iff_ne.mpr c29
   have c29b1 : (t749 != (wrap64 (-t731))) = true := bne_iff_ne.mpr c29
   simp only [Option.some.injEq, Prod.mk.injEq] at H
   obtain ⟨rfl, rfl, rfl, rfl, rfl⟩ := H
   go_enter Try.func12, Try.ntmps12
   try go_wp2_with (first | ((with_reducible refine gate_dst (N := 2) rfl ?_); refine bx_ 2 #[.bool a0_0, .slice A0_1 l0_1.length c0_1] 24 ?_; intro gb726 hg w96 hbox hb; have BK726 := Aside0.mk (hbox); have GW726 := ge_ hg HB; have GE726 := ge_ hg HB; replace HB := bq_ HB hb; clear hb hbox hg) | ((with_reducible refine gate_dst (N := 3) rfl ?_); refine bx_ 3 #[.bool a1_0, .slice A1_1 l1_1.length c1_1] 24 ?_; intro gb727 hg w97 hbox hb; have BK727 := Aside0.mk (hbox); have GW727 := ge_ hg HB; have GE727 := ge_ hg HB; have NB726_727 := nb_ hg BK726; have NB727_726 := nc_ hg BK726; replace BK726 := kq_ BK726 hb; replace HB := bq_ HB hb; clear hb hbox hg) | ((with_reducible refine gate_dst (N := 4) rfl ?_); refine bx_ 4 #[.bool false, .slice none 0 0] 24 ?_; intro gb728 hg w98 hbox hb; have BK728 := Aside0.mk (hbox); have GW728 := ge_ hg HB; have GE728 := ge_ hg HB; have NB726_728 := nb_ hg BK726; have NB728_726 := nc_ hg BK726; have NB727_728 := nb_ hg BK727; have NB728_727 := nc_ hg BK727; replace BK726 := kq_ BK726 hb; replace BK727 := kq_ BK727 hb; replace HB := bq_ HB hb; clear hb hbox hg) | ((with_reducible refine gate_dst (N := 5) rfl ?_); refine bx_ 5 #[.bool false, .slice none 0 0] 24 ?_; intro gb729 hg w99 hbox hb; have BK729 := Aside0.mk (hbox); have GW729 := ge_ hg HB; have GE729 := ge_ hg HB; have NB726_729 := nb_ hg BK726; have NB729_726 := nc_ hg BK726; have NB727_729 := nb_ hg BK727; have NB729_727 := nc_ hg BK727; have NB728_729 := nb_ hg BK728; have NB729_728 := nc_ hg BK728; replace BK726 := kq_ BK726 hb; replace BK727 := kq_ BK727 hb; replace BK728 := kq_ BK728 hb; replace HB := bq_ HB hb; clear hb hbox hg) | ((with_reducible refine gate_dst (N := 7) rfl ?_); refine bx_ 7 #[.bool false, .slice none 0 0] 24 ?_; intro gb730 hg w100 hbox hb; have BK730 := Aside0.mk (hbox); have GW730 := ge_ hg HB; have GE730 := ge_ hg HB; have NB726_730 := nb_ hg BK726; have NB730_726 := nc_ hg BK726; have NB727_730 := nb_ hg BK727; have NB730_727 := nc_ hg BK727; have NB728_730 := nb_ hg BK728; have NB730_728 := nc_ hg BK728; have NB729_730 := nb_ hg BK729; have NB730_729 := nc_ hg BK729; replace BK726 := kq_ BK726 hb; replace BK727 := kq_ BK727 hb; replace BK728 := kq_ BK728 hb; replace BK729 := kq_ BK729 hb; replace HB := bq_ HB hb; clear hb hbox hg; have hnb101 := NB730_726.out; have hnc101 := NB726_730.out; have hnb102 := NB730_727.out; have hnc102 := NB727_730.out; have hnb103 := NB730_728.out; have hnc103 := NB728_730.out; have hnb104 := NB730_729.out; have hnc104 := NB729_730.out; obtain ⟨hcz105_0, hcz105_1, hfz105_0, hfz105_1⟩ := c2_ BK730; have hnb106 := NB727_726.out; have hnc106 := NB726_727.out; have hnb107 := NB727_728.out; have hnc107 := NB728_727.out; have hnb108 := NB727_729.out; have hnc108 := NB729_727.out; obtain ⟨hcz109_0, hcz109_1, hfz109_0, hfz109_1⟩ := c2_ BK727) | ((with_reducible refine gate_callee (f := 34) rfl ?_); refine gl_ (some 16) Try.func34 #[.agg #[.bool a1_0, .slice A1_1 l1_1.length c1_1]] ?_; (with_reducible refine (pelorusref02_Sign.calls k a1_0 _ _ l1_1 t731 _ ?side1 ?side2 A3.out).mono ?_); (case side1 => exact Kd.C_below HR1_1.out (bw_ HB.out)); (case side2 => exact HC1_1.out); rintro e w110 ⟨rfl, hb⟩; refine ⟨_, rfl, ?_⟩; have n0_ := Aside0.mk (blk_below (g := gb726) (o := .cells #[.bool a0_0, .slice A0_1 l0_1.length c0_1] 24 (0, 0)) (by refine kb_ ?_; refine bf_ NB726_730 ?_; refine bf_ NB726_730 ?_; exact BK726.out) hb); have n1_ := Aside0.mk (blk_below (g := gb727) (o := .cells #[.bool a1_0, .slice A1_1 l1_1.length c1_1] 24 (0, 0)) (by refine kb_ ?_; refine bf_ NB727_730 ?_; refine bf_ NB727_730 ?_; exact BK727.out) hb); have n2_ := Aside0.mk (blk_below (g := gb728) (o := .cells #[.bool false, .slice none 0 0] 24 (0, 0)) (by refine kb_ ?_; refine bf_ NB728_730 ?_; refine bf_ NB728_730 ?_; exact BK728.out) hb); have n3_ := Aside0.mk (blk_below (g := gb729) (o := .cells #[.bool false, .slice none 0 0] 24 (0, 0)) (by refine kb_ ?_; refine bf_ NB729_730 ?_; refine bf_ NB729_730 ?_; exact BK729.out) hb); have n4_ := Aside0.mk (blk_below (g := gb730) (o := .cells #[.bool false, .slice none 0 0] 24 (0, 0)) (by refine kb_ ?_; refine bp_ #[.bool false, .slice none 0 0] 1 ?_; refine bp_ #[.bool false, .slice none 0 0] 0 ?_; exact BK730.out) hb); have n5_ := bq_ HB hb; clear BK726; clear BK727; clear BK728; clear BK729; clear BK730; clear HB; have BK726 := n0_; have BK727 := n1_; have BK728 := n2_; have BK729 := n3_; have BK730 := n4_; have HB := n5_; clear n0_ n1_ n2_ n3_ n4_ n5_; (try clear hb); (try clear hb2); (try clear hk); (try clear hi); have hnb111 := NB726_728.out; have hnc111 := NB728_726.out; have hnb112 := NB726_729.out; have hnc112 := NB729_726.out; obtain ⟨hcz113_0, hcz113_1, hfz113_0, hfz113_1⟩ := c2_ BK726; obtain ⟨hcz114_0, hcz114_1, hfz114_0, hfz114_1⟩ := c2_ BK727) | ((with_reducible refine gate_callee (f := 36) rfl ?_); refine gl_ (some 26) Try.func36 #[.slice A0_1 l0_1.length c0_1, .slice A1_1 l1_1.length c1_1] ?_; (with_reducible refine (pelorusref01_Div.calls k _ _ l0_1 _ _ l1_1 t732 t733 t734 _ ?side1 ?side2 ?side3 ?side4 A25.out).mono ?_); (case side1 => exact kc_ (Kd.C_below HR0_1.out HB.out)); (case side2 => exact HC0_1.out); (case side3 => exact kc_ (Kd.C_below HR1_1.out HB.out)); (case side4 => exact HC1_1.out); rintro e w115 ⟨v735, v737, rfl, ho0, ho1, hb⟩; refine ⟨_, rfl, ?_⟩; have HO736 := Aside0.mk (Kd.R_lower ho0 (below_size (bw_ HB.out))); have HO738 := Aside0.mk (Kd.R_lower ho1 (below_size (bw_ HB.out))); replace BK726 := kq_ BK726 hb; replace BK727 := kq_ BK727 hb; replace BK728 := kq_ BK728 hb; replace BK729 := kq_ BK729 hb; replace BK730 := kq_ BK730 hb; replace HB := bq_ HB hb; (try clear hb); (try clear hb2); (try clear hk); (try clear hi); (try clear ho0); (try clear ho1); obtain ⟨hcz116_0, hcz116_1, hfz116_0, hfz116_1⟩ := c2_ BK726; obtain ⟨hcz117_0, hcz117_1, hfz117_0, hfz117_1⟩ := c2_ BK727; obtain ⟨Ao118, co118, eo118⟩ := Kd.R_slice HO736.out; subst eo118) | ((with_reducible refine gate_callee (f := 20) rfl ?_); refine gl_ (some 36) Try.func20 #[.bool (a0_0 != a1_0), .slice Ao118 t732.length co118] ?_; (with_reducible refine (pelorusref02_Make.calls k (a0_0 != a1_0) _ _ t732 t739 t740 _ ?side1 ?side2 A26.out).mono ?_); (case side1 => exact kc_ (Kd.R_reads' HO736.out).2.2); (case side2 => exact (Kd.R_reads' HO736.out).2.1); rintro e w119 ⟨v741, rfl, ho0, hb⟩; refine ⟨_, rfl, ?_⟩; have HO742 := Aside0.mk (Kd.R_lower (Kd.R_new' (Kd.R_new' ho0 (Kd.R_lt (kr_ HO736.out))) (Kd.R_lt (kr_ HO738.out))) (below_size (bw_ HB.out))); replace HO736 := Aside0.mk (Kd.R_elder' (kr_ HO736.out) (Kd.R_base ho0) hb); replace HO738 := Aside0.mk (Kd.R_elder' (kr_ HO738.out) (Kd.R_base ho0) hb); replace BK726 := kq_ BK726 hb; replace BK727 := kq_ BK727 hb; replace BK728 := kq_ BK728 hb; replace BK729 := kq_ BK729 hb; replace BK730 := kq_ BK730 hb; replace HB := bq_ HB hb; (try clear hb); (try clear hb2); (try clear hk); (try clear hi); (try clear ho0)) | ((with_reducible refine gate_dst (N := 12) rfl ?_); refine bx_ 12 #[.bool false, .slice none 0 0] 24 ?_; intro gb743 hg w120 hbox hb; have BK743 := Aside0.mk (hbox); have GW743 := ge_ hg HB; have GE743 := ge_ hg HB; have NB726_743 := nb_ hg BK726; have NB743_726 := nc_ hg BK726; have NB727_743 := nb_ hg BK727; have NB743_727 := nc_ hg BK727; have NB728_743 := nb_ hg BK728; have NB743_728 := nc_ hg BK728; have NB729_743 := nb_ hg BK729; have NB743_729 := nc_ hg BK729; have NB730_743 := nb_ hg BK730; have NB743_730 := nc_ hg BK730; replace HO736 := Aside0.mk (Kd.R_below (kr_ HO736.out) hb); replace HO738 := Aside0.mk (Kd.R_below (kr_ HO738.out) hb); replace HO742 := Aside0.mk (Kd.R_below (kr_ HO742.out) hb); replace BK726 := kq_ BK726 hb; replace BK727 := kq_ BK727 hb; replace BK728 := kq_ BK728 hb; replace BK729 := kq_ BK729 hb; replace BK730 := kq_ BK730 hb; replace HB := bq_ HB hb; clear hb hbox hg; have hnb121 := NB743_726.out; have hnc121 := NB726_743.out; have hnb122 := NB743_727.out; have hnc122 := NB727_743.out; have hnb123 := NB743_728.out; have hnc123 := NB728_743.out; have hnb124 := NB743_729.out; have hnc124 := NB729_743.out; have hnb125 := NB743_730.out; have hnc125 := NB730_743.out; obtain ⟨hcz126_0, hcz126_1, hfz126_0, hfz126_1⟩ := c2_ BK743; obtain ⟨Ao127, co127, eo127⟩ := Kd.R_slice HO742.out; subst eo127; obtain ⟨hcz128_0, hcz128_1, hfz128_0, hfz128_1⟩ := c2_ BK726; obtain ⟨Ao129, co129, eo129⟩ := Kd.R_slice HO738.out; subst eo129) | ((with_reducible refine gate_callee (f := 20) rfl ?_); refine gl_ (some 40) Try.func20 #[.bool a0_0, .slice Ao129 t733.length co129] ?_; (with_reducible refine (pelorusref02_Make.calls k a0_0 _ _ t733 t744 t745 _ ?side1 ?side2 A27.out).mono ?_); (case side1 => refine (Kd.R_reads' (e := 47) (base := w.heap.size) (ok := fun k_ => (some k_ ≠ (.slice Ao118 t732.length co118 : Value).ownBlock ∧ some k_ ≠ (.slice Ao127 t740.length co127 : Value).ownBlock)) (n := t733.length) (c := co129) ?_).2.2; exact (kr_ ((Kd.R_mono (Kd.R_far (p := ⟨gb743, 1, none⟩) (Kd.R_far (p := ⟨gb743, 0, none⟩) (Kd.R_types HO738.out BK743.out (by decide)) (fun _ hk => hk.2) (.bool t739)) (fun _ hk => hk.2) (.slice Ao127 t740.length co127)) (fun _ h_ => h_.1))))); (case side2 => exact (Kd.R_reads' HO738.out).2.1); rintro e w130 ⟨v746, rfl, ho0, hb⟩; refine ⟨_, rfl, ?_⟩; have n0_ := Aside0.mk (Kd.R_elder' (kr_ ((Kd.R_mono (Kd.R_far (p := ⟨gb743, 1, none⟩) (Kd.R_far (p := ⟨gb743, 0, none⟩) (Kd.R_types HO736.out BK743.out (by decide)) (fun _ hk => hk.2) (.bool t739)) (fun _ hk => hk.2) (.slice Ao127 t740.length co127)) (fun _ h_ => h_.1)))) (Kd.R_base ho0) hb); have n1_ := Aside0.mk (Kd.R_elder' (kr_ ((Kd.R_mono (Kd.R_far (p := ⟨gb743, 1, none⟩) (Kd.R_far (p := ⟨gb743, 0, none⟩) (Kd.R_types HO738.out BK743.out (by decide)) (fun _ hk => hk.2) (.bool t739)) (fun _ hk => hk.2) (.slice Ao127 t740.length co127)) (fun _ h_ => h_.1)))) (Kd.R_base ho0) hb); have n2_ := Aside0.mk (Kd.R_elder' (kr_ ((Kd.R_mono (Kd.R_far (p := ⟨gb743, 1, none⟩) (Kd.R_far (p := ⟨gb743, 0, none⟩) (Kd.R_types HO742.out BK743.out (by decide)) (fun _ hk => hk.2) (.bool t739)) (fun _ hk => hk.2) (.slice Ao127 t740.length co127)) (fun _ h_ => h_.1)))) (Kd.R_base ho0) hb); have n3_ := Aside0.mk (Kd.R_lower (Kd.R_new' (Kd.R_new' (Kd.R_new' ho0 (Kd.R_lt (kr_ ((Kd.R_mono (Kd.R_far (p := ⟨gb743, 1, none⟩) (Kd.R_far (p := ⟨gb743, 0, none⟩) (Kd.R_types HO736.out BK743.out (by decide)) (fun _ hk => hk.2) (.bool t739)) (fun _ hk => hk.2) (.slice Ao127 t740.length co127)) (fun _ h_ => h_.1)))))) (Kd.R_lt (kr_ ((Kd.R_mono (Kd.R_far (p := ⟨gb743, 1, none⟩) (Kd.R_far (p := ⟨gb743, 0, none⟩) (Kd.R_types HO738.out BK743.out (by decide)) (fun _ hk => hk.2) (.bool t739)) (fun _ hk => hk.2) (.slice Ao127 t740.length co127)) (fun _ h_ => h_.1)))))) (Kd.R_lt (kr_ ((Kd.R_mono (Kd.R_far (p := ⟨gb743, 1, none⟩) (Kd.R_far (p := ⟨gb743, 0, none⟩) (Kd.R_types HO742.out BK743.out (by decide)) (fun _ hk => hk.2) (.bool t739)) (fun _ hk => hk.2) (.slice Ao127 t740.length co127)) (fun _ h_ => h_.1)))))) (below_size (bw_ HB.out))); have n4_ := Aside0.mk (blk_below (g := gb726) (o := .cells #[.bool a0_0, .slice A0_1 l0_1.length c0_1] 24 (0, 0)) (by refine kb_ ?_; refine bf_ NB726_743 ?_; refine bf_ NB726_743 ?_; exact BK726.out) hb); have n5_ := Aside0.mk (blk_below (g := gb727) (o := .cells #[.bool a1_0, .slice A1_1 l1_1.length c1_1] 24 (0, 0)) (by refine kb_ ?_; refine bf_ NB727_743 ?_; refine bf_ NB727_743 ?_; exact BK727.out) hb); have n6_ := Aside0.mk (blk_below (g := gb728) (o := .cells #[.bool false, .slice none 0 0] 24 (0, 0)) (by refine kb_ ?_; refine bf_ NB728_743 ?_; refine bf_ NB728_743 ?_; exact BK728.out) hb); have n7_ := Aside0.mk (blk_below (g := gb729) (o := .cells #[.bool false, .slice none 0 0] 24 (0, 0)) (by refine kb_ ?_; refine bf_ NB729_743 ?_; refine bf_ NB729_743 ?_; exact BK729.out) hb); have n8_ := Aside0.mk (blk_below (g := gb730) (o := .cells #[.bool false, .slice none 0 0] 24 (0, 0)) (by refine kb_ ?_; refine bf_ NB730_743 ?_; refine bf_ NB730_743 ?_; exact BK730.out) hb); have n9_ := Aside0.mk (blk_below (g := gb743) (o := .cells #[.bool t739, .slice Ao127 t740.length co127] 24 (0, 0)) (by refine kb_ ?_; refine bp_ #[.bool t739, .slice none 0 0] 1 ?_; refine bp_ #[.bool false, .slice none 0 0] 0 ?_; exact BK743.out) hb); have n10_ := bq_ HB hb; clear HO736; clear HO738; clear HO742; clear BK726; clear BK727; clear BK728; clear BK729; clear BK730; clear BK743; clear HB; have HO736 := n0_; have HO738 := n1_; have HO742 := n2_; have HO747 := n3_; have BK726 := n4_; have BK727 := n5_; have BK728 := n6_; have BK729 := n7_; have BK730 := n8_; have BK743 := n9_; have HB := n10_; clear n0_ n1_ n2_ n3_ n4_ n5_ n6_ n7_ n8_ n9_ n10_; (try clear hb); (try clear hb2); (try clear hk); (try clear hi); (try clear ho0)) | ((with_reducible refine gate_dst (N := 13) rfl ?_); refine bx_ 13 #[.bool false, .slice none 0 0] 24 ?_; intro gb748 hg w131 hbox hb; have BK748 := Aside0.mk (hbox); have GW748 := ge_ hg HB; have GE748 := ge_ hg HB; have NB726_748 := nb_ hg BK726; have NB748_726 := nc_ hg BK726; have NB727_748 := nb_ hg BK727; have NB748_727 := nc_ hg BK727; have NB728_748 := nb_ hg BK728; have NB748_728 := nc_ hg BK728; have NB729_748 := nb_ hg BK729; have NB748_729 := nc_ hg BK729; have NB730_748 := nb_ hg BK730; have NB748_730 := nc_ hg BK730; have NB743_748 := nb_ hg BK743; have NB748_743 := nc_ hg BK743; replace HO736 := Aside0.mk (Kd.R_below (kr_ HO736.out) hb); replace HO738 := Aside0.mk (Kd.R_below (kr_ HO738.out) hb); replace HO742 := Aside0.mk (Kd.R_below (kr_ HO742.out) hb); replace HO747 := Aside0.mk (Kd.R_below (kr_ HO747.out) hb); replace BK726 := kq_ BK726 hb; replace BK727 := kq_ BK727 hb; replace BK728 := kq_ BK728 hb; replace BK729 := kq_ BK729 hb; replace BK730 := kq_ BK730 hb; replace BK743 := kq_ BK743 hb; replace HB := bq_ HB hb; clear hb hbox hg; have hnb132 := NB748_726.out; have hnc132 := NB726_748.out; have hnb133 := NB748_727.out; have hnc133 := NB727_748.out; have hnb134 := NB748_728.out; have hnc134 := NB728_748.out; have hnb135 := NB748_729.out; have hnc135 := NB729_748.out; have hnb136 := NB748_730.out; have hnc136 := NB730_748.out; have hnb137 := NB748_743.out; have hnc137 := NB743_748.out; obtain ⟨hcz138_0, hcz138_1, hfz138_0, hfz138_1⟩ := c2_ BK748; obtain ⟨Ao139, co139, eo139⟩ := Kd.R_slice HO747.out; subst eo139) | ((with_reducible refine gate_callee (f := 34) rfl ?_); refine gl_ (some 42) Try.func34 #[.agg #[.bool t744, .slice Ao139 t745.length co139]] ?_; (with_reducible refine (pelorusref02_Sign.calls k t744 _ _ t745 t749 _ ?side1 ?side2 A28.out).mono ?_); (case side1 => refine (Kd.R_reads' (e := 47) (base := w.heap.size) (ok := fun k_ => (((True ∧ some k_ ≠ (.slice Ao118 t732.length co118 : Value).ownBlock) ∧ some k_ ≠ (.slice Ao129 t733.length co129 : Value).ownBlock) ∧ some k_ ≠ (.slice Ao127 t740.length co127 : Value).ownBlock)) (n := t745.length) (c := co139) ?_).2.2; exact (kr_ ((Kd.R_mono (Kd.R_far (p := ⟨gb748, 1, none⟩) (Kd.R_far (p := ⟨gb748, 0, none⟩) (Kd.R_types HO747.out BK748.out (by decide)) (fun _ hk => hk.2) (.bool t744)) (fun _ hk => hk.2) (.slice Ao139 t745.length co139)) (fun _ h_ => h_.1))))); (case side2 => exact (Kd.R_reads' HO747.out).2.1); rintro e w140 ⟨rfl, hb⟩; refine ⟨_, rfl, ?_⟩; have n0_ := Aside0.mk (Kd.R_below (kr_ ((Kd.R_mono (Kd.R_far (p := ⟨gb748, 1, none⟩) (Kd.R_far (p := ⟨gb748, 0, none⟩) (Kd.R_types HO736.out BK748.out (by decide)) (fun _ hk => hk.2) (.bool t744)) (fun _ hk => hk.2) (.slice Ao139 t745.length co139)) (fun _ h_ => h_.1)))) hb); have n1_ := Aside0.mk (Kd.R_below (kr_ ((Kd.R_mono (Kd.R_far (p := ⟨gb748, 1, none⟩) (Kd.R_far (p := ⟨gb748, 0, none⟩) (Kd.R_types HO738.out BK748.out (by decide)) (fun _ hk => hk.2) (.bool t744)) (fun _ hk => hk.2) (.slice Ao139 t745.length co139)) (fun _ h_ => h_.1)))) hb); have n2_ := Aside0.mk (Kd.R_below (kr_ ((Kd.R_mono (Kd.R_far (p := ⟨gb748, 1, none⟩) (Kd.R_far (p := ⟨gb748, 0, none⟩) (Kd.R_types HO742.out BK748.out (by decide)) (fun _ hk => hk.2) (.bool t744)) (fun _ hk => hk.2) (.slice Ao139 t745.length co139)) (fun _ h_ => h_.1)))) hb); have n3_ := Aside0.mk (Kd.R_below (kr_ ((Kd.R_mono (Kd.R_far (p := ⟨gb748, 1, none⟩) (Kd.R_far (p := ⟨gb748, 0, none⟩) (Kd.R_types HO747.out BK748.out (by decide)) (fun _ hk => hk.2) (.bool t744)) (fun _ hk => hk.2) (.slice Ao139 t745.length co139)) (fun _ h_ => h_.1)))) hb); have n4_ := Aside0.mk (blk_below (g := gb726) (o := .cells #[.bool a0_0, .slice A0_1 l0_1.length c0_1] 24 (0, 0)) (by refine kb_ ?_; refine bf_ NB726_748 ?_; refine bf_ NB726_748 ?_; exact BK726.out) hb); have n5_ := Aside0.mk (blk_below (g := gb727) (o := .cells #[.bool a1_0, .slice A1_1 l1_1.length c1_1] 24 (0, 0)) (by refine kb_ ?_; refine bf_ NB727_748 ?_; refine bf_ NB727_748 ?_; exact BK727.out) hb); have n6_ := Aside0.mk (blk_below (g := gb728) (o := .cells #[.bool false, .slice none 0 0] 24 (0, 0)) (by refine kb_ ?_; refine bf_ NB728_748 ?_; refine bf_ NB728_748 ?_; exact BK728.out) hb); have n7_ := Aside0.mk (blk_below (g := gb729) (o := .cells #[.bool false, .slice none 0 0] 24 (0, 0)) (by refine kb_ ?_; refine bf_ NB729_748 ?_; refine bf_ NB729_748 ?_; exact BK729.out) hb); have n8_ := Aside0.mk (blk_below (g := gb730) (o := .cells #[.bool false, .slice none 0 0] 24 (0, 0)) (by refine kb_ ?_; refine bf_ NB730_748 ?_; refine bf_ NB730_748 ?_; exact BK730.out) hb); have n9_ := Aside0.mk (blk_below (g := gb743) (o := .cells #[.bool t739, .slice Ao127 t740.length co127] 24 (0, 0)) (by refine kb_ ?_; refine bf_ NB743_748 ?_; refine bf_ NB743_748 ?_; exact BK743.out) hb); have n10_ := Aside0.mk (blk_below (g := gb748) (o := .cells #[.bool t744, .slice Ao139 t745.length co139] 24 (0, 0)) (by refine kb_ ?_; refine bp_ #[.bool t744, .slice none 0 0] 1 ?_; refine bp_ #[.bool false, .slice none 0 0] 0 ?_; exact BK748.out) hb); have n11_ := bq_ HB hb; clear HO736; clear HO738; clear HO742; clear HO747; clear BK726; clear BK727; clear BK728; clear BK729; clear BK730; clear BK743; clear BK748; clear HB; have HO736 := n0_; have HO738 := n1_; have HO742 := n2_; have HO747 := n3_; have BK726 := n4_; have BK727 := n5_; have BK728 := n6_; have BK729 := n7_; have BK730 := n8_; have BK743 := n9_; have BK748 := n10_; have HB := n11_; clear n0_ n1_ n2_ n3_ n4_ n5_ n6_ n7_ n8_ n9_ n10_ n11_; (try clear hb); (try clear hb2); (try clear hk); (try clear hi)))
   replace HO736 := Aside0.mk (Kd.R_drew HO736.out)
   replace HO738 := Aside0.mk (Kd.R_drew HO738.out)
   replace HO742 := Aside0.mk (Kd.R_drew HO742.out)
   replace HO747 := Aside0.mk (Kd.R_drew HO747.out)
   replace BK726 := Aside0.mk (blk_drew BK726.out)
   replace BK727 := Aside0.mk (blk_drew BK727.out)
   replace BK728 := Aside0.mk (blk_drew BK728.out)
   replace BK729 := Aside0.mk (blk_drew BK729.out)
   replace BK730 := Aside0.mk (blk_drew BK730.out)
   replace BK743 := Aside0.mk (blk_drew BK743.out)
   replace BK748 := Aside0.mk (blk_drew BK748.out)
   replace HB := Aside0.mk (below_drew1 HB.out)
   refine start_ (n := 5) (S := fun w' => w'.cell? ⟨gb743, 0, none⟩ = some (.bool t739) ∧ w'.cell? ⟨gb743, 1, none⟩ = some (.slice Ao127 t740.length co127) ∧ w'.cell? ⟨gb748, 0, none⟩ = some (.bool t744) ∧ w'.cell? ⟨gb748, 1, none⟩ = some (.slice Ao139 t745.length co139)) (ds := []) #[false, false, false, false, false] (by kernel_rfl) rfl rfl ⟨(blk_cell BK743.out 0).trans rfl, (blk_cell BK743.out 1).trans rfl, (blk_cell BK748.out 0).trans rfl, (blk_cell BK748.out 1).trans rfl⟩ (fun hHeld => ?_)
   generalize w140.drew = w141 at HO736 HO738 HO742 HO747 BK726 BK727 BK728 BK729 BK730 BK743 BK748 HB hHeld ⊢
   refine take_ (i := 0) (N := some 52) (v := ?_) (a' := ?_) #[true, false, false, false, false] rfl rfl (by kernel_rfl) (fun _ _ _ h => h) (Or.inl ⟨by rfl, ?_⟩) hHeld ?_ ?_
   rotate_left
   ·rintro w' ⟨s0, s1, s2, s3⟩
    go_simp
    with_reducible rfl
   rotate_left
   ·exact pt_
   refine take_ (i := 1) (N := some 53) (v := ?_) (a' := ?_) #[true, true, false, false, false] rfl rfl (by kernel_rfl) (fun _ _ _ h => h) (Or.inl ⟨by rfl, ?_⟩) hHeld ?_ ?_
   rotate_left
   ·rintro w' ⟨s0, s1, s2, s3⟩
    go_simp
    with_reducible rfl
   rotate_left
   ·exact pt_
   refine one_ (i := 2) (N := none) #[true, true, true, false, false] rfl rfl (by kernel_rfl) (by decide) (fun K hK => ?_)
   have hs142 : w141.cell? ⟨gb728, 0, none⟩ = some (.bool false) := (blk_cell BK728.out 0).trans rfl
   have hfs142 := fz_ BK728 0
   have hns142_0 := NB726_728.out
   have hns142_1 := NB727_728.out
   have hns142_3 := NB729_728.out
   have hns142_4 := NB730_728.out
   have hns142_5 := NB743_728.out
   have hns142_6 := NB748_728.out
   have hms142_0 := NB728_726.out
   have hms142_1 := NB728_727.out
   have hms142_3 := NB728_729.out
   have hms142_4 := NB728_730.out
   have hms142_5 := NB728_743.out
   have hms142_6 := NB728_748.out
   have hs143 : w141.cell? ⟨gb728, 1, none⟩ = some (.slice none 0 0) := (blk_cell BK728.out 1).trans rfl
   have hfs143 := fz_ BK728 1
   have hns143_0 := NB726_728.out
   have hns143_1 := NB727_728.out
   have hns143_3 := NB729_728.out
   have hns143_4 := NB730_728.out
   have hns143_5 := NB743_728.out
   have hns143_6 := NB748_728.out
   have hms143_0 := NB728_726.out
   have hms143_1 := NB728_727.out
   have hms143_3 := NB728_729.out
   have hms143_4 := NB728_730.out
   have hms143_5 := NB728_743.out
   have hms143_6 := NB728_748.out
   refine skip_ (w1 := ?_) (by rfl) rfl ?_ ?_
   rotate_left
   ·go_simp
    rfl
   refine hK.out _ _ ⟨((cell_far (p := ⟨gb728, _, none⟩) NB743_728.out _).trans (((cell_far (p := ⟨gb728, _, none⟩) NB743_728.out _).trans (hHeld.1)))), ((cell_far (p := ⟨gb728, _, none⟩) NB743_728.out _).trans (((cell_far (p := ⟨gb728, _, none⟩) NB743_728.out _).trans (hHeld.2.1)))), ((cell_far (p := ⟨gb728, _, none⟩) NB748_728.out _).trans (((cell_far (p := ⟨gb728, _, none⟩) NB748_728.out _).trans (hHeld.2.2.1)))), ((cell_far (p := ⟨gb728, _, none⟩) NB748_728.out _).trans (((cell_far (p := ⟨gb728, _, none⟩) NB748_728.out _).trans (hHeld.2.2.2))))⟩ (fun hHeld => ?_)
   clear hK K
   refine one_ (i := 3) (N := none) #[true, true, true, true, false] rfl rfl (by kernel_rfl) (by decide) (fun K hK => ?_)
   have hs144 : w141.cell? ⟨gb729, 0, none⟩ = some (.bool false) := (blk_cell BK729.out 0).trans rfl
   have hfs144 := fz_ BK729 0
   have hns144_0 := NB726_729.out
   have hns144_1 := NB727_729.out
   have hns144_2 := NB728_729.out
   have hns144_4 := NB730_729.out
   have hns144_5 := NB743_729.out
   have hns144_6 := NB748_729.out
   have hms144_0 := NB729_726.out
   have hms144_1 := NB729_727.out
   have hms144_2 := NB729_728.out
   have hms144_4 := NB729_730.out
   have hms144_5 := NB729_743.out
   have hms144_6 := NB729_748.out
   have hs145 : w141.cell? ⟨gb729, 1, none⟩ = some (.slice none 0 0) := (blk_cell BK729.out 1).trans rfl
   have hfs145 := fz_ BK729 1
   have hns145_0 := NB726_729.out
   have hns145_1 := NB727_729.out
   have hns145_2 := NB728_729.out
   have hns145_4 := NB730_729.out
   have hns145_5 := NB743_729.out
   have hns145_6 := NB748_729.out
   have hms145_0 := NB729_726.out
   have hms145_1 := NB729_727.out
   have hms145_2 := NB729_728.out
   have hms145_4 := NB729_730.out
   have hms145_5 := NB729_743.out
   have hms145_6 := NB729_748.out
   refine skip_ (w1 := ?_) (by rfl) rfl ?_ ?_
   rotate_left
   ·go_simp
    rfl
   refine hK.out _ _ ⟨((cell_far (p := ⟨gb729, _, none⟩) NB743_729.out _).trans (((cell_far (p := ⟨gb729, _, none⟩) NB743_729.out _).trans (hHeld.1)))), ((cell_far (p := ⟨gb729, _, none⟩) NB743_729.out _).trans (((cell_far (p := ⟨gb729, _, none⟩) NB743_729.out _).trans (hHeld.2.1)))), ((cell_far (p := ⟨gb729, _, none⟩) NB748_729.out _).trans (((cell_far (p := ⟨gb729, _, none⟩) NB748_729.out _).trans (hHeld.2.2.1)))), ((cell_far (p := ⟨gb729, _, none⟩) NB748_729.out _).trans (((cell_far (p := ⟨gb729, _, none⟩) NB748_729.out _).trans (hHeld.2.2.2))))⟩ (fun hHeld => ?_)
   clear hK K
   refine pure_ (i := 4) (N := some 6) (v := ?_) (a' := ?_) #[true, true, true, true, true] rfl rfl (by kernel_rfl) (fun _ _ _ h => h) (Or.inl ⟨by rfl, ?_⟩) ?_ ?_
   rotate_left
   ·intro w'
    go_simp
    with_reducible rfl
   rotate_left
   ·exact pt_
   refine done_ (by kernel_rfl) ?_
   try go_wp2
   refine bodyPost_ret (results_list (rs := [.cell 4 24, .cell 5 24, .tmp 6]) rfl (by simp) (.cell gb728 24 #[.bool t739, .slice Ao127 t740.length co127] (0, 0) _ rfl (by refine kb_ ?_; refine bf_ NB728_729 ?_; refine bf_ NB728_729 ?_; refine bp_ #[.bool t739, .slice none 0 0] 1 ?_; refine bp_ #[.bool false, .slice none 0 0] 0 ?_; exact BK728.out) Try.underlying24 rfl (by kernel_rfl) (.cell gb729 24 #[.bool t744, .slice Ao139 t745.length co139] (0, 0) _ rfl (by refine kb_ ?_; refine bp_ #[.bool t744, .slice none 0 0] 1 ?_; refine bp_ #[.bool false, .slice none 0 0] 0 ?_; refine bf_ NB729_728 ?_; refine bf_ NB729_728 ?_; exact BK729.out) Try.underlying24 rfl (by kernel_rfl) (.tmp .nil)))) rfl ?_
   exact ⟨_, _, rf_, by (with_reducible repeat (first | apply Kd.R_alloc | apply Kd.R_drewN | apply Kd.R_drew)); exact Kd.R_mono (Kd.R_far (p := ⟨gb729, 1, none⟩) (Kd.R_far (p := ⟨gb729, 0, none⟩) (Kd.R_far (p := ⟨gb728, 1, none⟩) (Kd.R_far (p := ⟨gb728, 0, none⟩) (Kd.R_types (Kd.R_types HO742.out BK728.out (by decide)) BK729.out (by decide)) (fun _ hk => hk.1.2) (.bool t739)) (fun _ hk => hk.1.2) (.slice Ao127 t740.length co127)) (fun _ hk => hk.2) (.bool t744)) (fun _ hk => hk.2) (.slice Ao139 t745.length co139)) (fun _ hk => hk.1.1.2), by (with_reducible repeat (first | apply Kd.R_alloc | apply Kd.R_drewN | apply Kd.R_drew)); exact Kd.R_mono (Kd.R_far (p := ⟨gb729, 1, none⟩) (Kd.R_far (p := ⟨gb729, 0, none⟩) (Kd.R_far (p := ⟨gb728, 1, none⟩) (Kd.R_far (p := ⟨gb728, 0, none⟩) (Kd.R_types (Kd.R_types HO747.out BK728.out (by decide)) BK729.out (by decide)) (fun _ hk => hk.1.2) (.bool t739)) (fun _ hk => hk.1.2) (.slice Ao127 t740.length co127)) (fun _ hk => hk.2) (.bool t744)) (fun _ hk => hk.2) (.slice Ao139 t745.length co139)) (fun _ hk => hk.1.1.2), bw_ HB.out⟩

/-! ### pelorusref01_Mul: function 60 -/
set_option maxHeartbeats 8000000 in
set_option maxRecDepth 100000 in
theorem pelorusref01_Mul.calls (k : Nat) (A0 : Option Addr) (c0 : Nat) (l0 : List Int) (A1 : Option Addr) (c1 : Nat) (l1 : List Int) (r : List Int) (w : World) (hr0 : Kd.C (Kd.int .u32) w A0 l0.length l0) (hc0 : l0.length ≤ c0) (hr1 : Kd.C (Kd.int .u32) w A1 l1.length l1) (hc1 : l1.length ≤ c1) (h : pelorusref01_Mul.f k l0 l1 = some r) :
  Calls Try.prog 60 #[.slice A0 l0.length c0, .slice A1 l1.length c1] w fun e w' => ∃ v0_ : Value, e = .returned (v0_) ∧ Kd.R (Kd.int .u32) 47 w' w.heap.size (fun _ => True) v0_ r ∧ Below w.heap.size w w' := by
 have HR0 := Aside0.mk hr0
 have HC0 := Aside0.mk hc0
 clear hr0 hc0
 have HR1 := Aside0.mk hr1
 have HC1 := Aside0.mk hc1
 clear hr1 hc1
 have HB := Aside0.mk (Below.refl w.heap.size w)
 have H : (pelorusref01_Mul.l0 k l0 l1 ([] : List Int) (wrap64 ((l1.length : Int) - 1))) = some r := h
 clear h
 have H' := Aside0.mk H
 clear H
 go_enter Try.func60, Try.ntmps60
 go_wp2
 repeat (go_quiet (fail); try go_wp2)
 go_loopg [5, 6] k (fun kq v5 v6 w' => ∃ (x5_1 : List Int) (x6_1 : Int), v6 = .int .i64 x6_1 ∧ Aside0 (pelorusref01_Mul.l0 kq l0 l1 x5_1 x6_1 = some r) ∧ Aside0 (kq ≤ k) ∧ Aside0 (Kd.R (Kd.int .u32) 47 w' w.heap.size (fun _ => True) v5 x5_1) ∧ Aside0 (Below w.heap.size w w'))
 case atStart => exact ⟨(([] : List Int)), (wrap64 ((l1.length : Int) - 1)), (by first | rfl | (simp; done) | (simp [*]; done)), H', ⟨Nat.le_refl _⟩, ⟨by first | exact Kd.R_nil _ _ _ _ _ | exact Kd.N_nil _ _ _ _ _ | exact Kd.V_nil _ _ _ _ _ | exact Kd.Q_nil _ _ _ _ _ | exact Kd.S_nil _ _ _ _ _⟩, ⟨bw_ HB.out⟩⟩
 case round =>
  clear H'
  try clear c1
  try clear p2
  obtain ⟨x5_1, x6_1, rfl, HA, HK1, HO_5, HB⟩ := hrel
  cases gk with
  | zero => exact absurd HA.out (by simp [pelorusref01_Mul.l0])
  | succ k1 =>
   have H := HA.out
   clear HA
   simp only [pelorusref01_Mul.l0] at H
   by_cases c3 : x6_1 ≥ 0
   ·rw [if_pos c3] at H
    have c3b0 : decide (0 ≤ x6_1) = true := decide_eq_true c3
    clear c3
    obtain ⟨y765, hy765⟩ : ∃ y_ : List Int, y_ = (([0] : List Int)) := ⟨_, rfl⟩
    replace H : (if y765.length + x5_1.length < 35184372088832 then (pelorusref01_Mul.l1 k1 l0 l1 (y765 ++ x5_1) x6_1 ([] : List Int) 0 0) else (none)) = some r := by first | (rw [hy765]; with_reducible exact H) | (have H2_ := (Option.bind_some _ _).symm.trans H; rw [hy765]; with_reducible exact H2_) | (have H2_ := (Option.bind_some _ _).symm.trans H; with_reducible exact H2_) | with_reducible exact H | (rw [hy765]; exact H) | exact H
    have Ny765 := Aside0.mk hy765
    clear hy765
    by_cases c4 : y765.length + x5_1.length < 35184372088832
    ·rw [if_pos c4] at H
     have LMc4 := Aside0.mk c4
     clear c4
     obtain ⟨y768, hy768⟩ : ∃ y_ : List Int, y_ = (y765 ++ x5_1) := ⟨_, rfl⟩
     replace H : (pelorusref01_Mul.l1 k1 l0 l1 y768 x6_1 ([] : List Int) 0 0) = some r := by first | (rw [hy768]; with_reducible exact H) | (have H2_ := (Option.bind_some _ _).symm.trans H; rw [hy768]; with_reducible exact H2_) | (have H2_ := (Option.bind_some _ _).symm.trans H; with_reducible exact H2_) | with_reducible exact H | (rw [hy768]; exact H) | exact H
     have Ny768 := Aside0.mk hy768
     clear hy768
     have H' := Aside0.mk H
     clear H
     iterate 2 (try go_wp2_with (first | ((with_reducible refine gate_dst (N := 19) rfl ?_); refine Kd.R_lit (Kd.int .u32) _ 47 ?hg (N := 19) ?hd (xs := ([0] : List Int)) (inner := [.int .u32 0]) (ok := fun _ => True) (okp := fun _ => True) ?hr ?hp (fun _ hk => hk) trivial (Below.refl _ _) (Nat.le_refl _) (by simp) ?_; (case hd => rfl); (case hg => rfl); (case hr => first | (go_simp; done) | (go_simp; rfl)); (case hp => exact (Reps.one (show Kd.M (Kd.int .u32) _ _ _ 0 [.int .u32 0] from rfl) (Reps.none _ _))); intro v766 w5 ho6 hb hg_ hnew_; clear hg_ hnew_; (first | rw [← Ny765.out] at ho6 | (simp only [Int.reduceToNat] at ho6; rw [← Ny765.out] at ho6)); have HO767 := Aside0.mk (Kd.R_lower (Kd.R_new' ho6 (Kd.R_lt (kr_ HO_5.out))) (below_size (bw_ HB.out))); replace HO_5 := Aside0.mk (Kd.R_elder' (kr_ HO_5.out) (Kd.R_base ho6) hb); replace HB := bq_ HB hb; clear hb ho6; obtain ⟨Ao8, co8, eo8⟩ := Kd.R_slice HO_5.out; subst eo8) | ((with_reducible refine gate_builtin (b := .append) (xs := #[.tmp 20, .tmp 21]) rfl ?_); at_builtin; refine Kd.R_append_rows (Kd.int .u32) (w0 := w) w.heap.size rfl (.tmp 20) (.tmp 21) 22 47 (.int .u32 0) 4 rfl Try.underlying22 info47 rfl (by decide) (by omega) v766 y765 x5_1 _ _ _ (fun k_ => some k_ ≠ (.slice Ao8 x5_1.length co8 : Value).ownBlock) (fun _ => False) rfl rfl ?aO ?aR (fun _ _ h => h) (fun _ h => h.elim) ?aF ?aB ?aS ?aL ?_; (case aR => exact kc_ (Kd.R_reads' HO_5.out).2.2); (case aB => exact (bw_ HB.out)); (case aF => exact (fun k_ hk => Kd.fresh' (Kd.R_lt (kr_ HO_5.out)) k_ hk)); (case aO => exact (kr_ (Kd.R_mono HO767.out (fun _ hk => hk.2)))); (case aS => exact (below_size (bw_ HB.out))); (case aL => have := LMc4.out; omega); intro v769 w7 ho hb hg hat; rw [← Ny768.out] at ho; have HO770 := Aside0.mk (ho); replace HO_5 := Aside0.mk (Kd.R_after (ok := (fun _ => True)) (kr_ HO_5.out) hg hat); replace HB := Aside0.mk (hb); clear HO767; clear ho hb hg hat)); try (go_quiet (fail)))
     go_loopg [8, 9, 10] k1 (fun kq v8 v9 v10 w' => ∃ (x8_2 : List Int) (x9_2 : Int) (x10_2 : Int), v9 = .int .u64 x9_2 ∧ v10 = .int .i64 x10_2 ∧ Aside0 (pelorusref01_Mul.l1 kq l0 l1 y768 x6_1 x8_2 x9_2 x10_2 = some r) ∧ Aside0 (kq ≤ k1) ∧ Aside0 (Kd.R (Kd.int .u32) 47 w' w.heap.size (fun k_ => some k_ ≠ (v8 : Value).ownBlock) v769 y768) ∧ Aside0 (Kd.R (Kd.int .u32) 47 w' w.heap.size (fun k_ => some k_ ≠ (v769 : Value).ownBlock) v8 x8_2) ∧ Aside0 (Below w.heap.size w w'))
     case atStart => exact ⟨(([] : List Int)), (0), (0), (by first | rfl | (simp; done) | (simp [*]; done)), (by first | rfl | (simp; done) | (simp [*]; done)), H', ⟨Nat.le_refl _⟩, ⟨by (with_reducible repeat (first | apply Kd.R_alloc | apply Kd.R_drewN | apply Kd.R_drew)); exact Kd.R_mono HO770.out (fun _ hk => (by simp [Value.ownBlock]))⟩, ⟨by first | exact Kd.R_nil _ _ _ _ _ | exact Kd.N_nil _ _ _ _ _ | exact Kd.V_nil _ _ _ _ _ | exact Kd.Q_nil _ _ _ _ _ | exact Kd.S_nil _ _ _ _ _⟩, ⟨bw_ HB.out⟩⟩
     case round =>
      clear H'
      try clear c1
      try clear p2
      try clear c3
      try clear c3b0
      try clear c4
      try clear c6
      try clear p6
      try clear p2
      obtain ⟨x8_2, x9_2, x10_2, rfl, rfl, HA, HK2, HO_5, HO_8, HB⟩ := hrel
      cases gk with
      | zero => exact absurd HA.out (by simp [pelorusref01_Mul.l1])
      | succ k2 =>
       have H := HA.out
       clear HA
       simp only [pelorusref01_Mul.l1] at H
       by_cases c9 : x10_2 < (l0.length : Int)
       ·rw [if_pos c9] at H
        have c9b0 : decide (x10_2 < (l0.length : Int)) = true := decide_eq_true c9
        clear c9
        by_cases c10 : 0 ≤ x10_2
        ·rw [if_pos c10] at H
         have c10b0 : decide (0 ≤ x10_2) = true := decide_eq_true c10
         clear c10
         by_cases c11 : 0 ≤ x6_1
         ·rw [if_pos c11] at H
          have c11b0 : decide (0 ≤ x6_1) = true := decide_eq_true c11
          clear c11
          by_cases c12 : x6_1 < (l1.length : Int)
          ·rw [if_pos c12] at H
           have c12b0 : decide (x6_1 < (l1.length : Int)) = true := decide_eq_true c12
           clear c12
           by_cases c13 : x8_2.length < 35184372088832
           ·rw [if_pos c13] at H
            have LMc13 := Aside0.mk c13
            clear c13
            obtain ⟨y773, hy773⟩ : ∃ y_ : List Int, y_ = (x8_2 ++ [(Int.tmod (IntKind.u64.wrap ((IntKind.u64.wrap ((IntKind.u64.wrap (rd l0 x10_2)) * (IntKind.u64.wrap (rd l1 x6_1)))) + x9_2)) 4294967296) % 4294967296]) := ⟨_, rfl⟩
            replace H : (pelorusref01_Mul.l1 k2 l0 l1 y768 x6_1 y773 (IntKind.u64.wrap (Int.tdiv (IntKind.u64.wrap ((IntKind.u64.wrap ((IntKind.u64.wrap (rd l0 x10_2)) * (IntKind.u64.wrap (rd l1 x6_1)))) + x9_2)) 4294967296)) (wrap64 (x10_2 + 1))) = some r := by first | (rw [hy773]; with_reducible exact H) | (have H2_ := (Option.bind_some _ _).symm.trans H; rw [hy773]; with_reducible exact H2_) | (have H2_ := (Option.bind_some _ _).symm.trans H; with_reducible exact H2_) | with_reducible exact H | (rw [hy773]; exact H) | exact H
            have Ny773 := Aside0.mk hy773
            clear hy773
            have H' := Aside0.mk H
            clear H
            have p771 : 0 ≤ (x10_2 : Int) := of_decide_eq_true (by first | (with_reducible assumption) | assumption)
            have q771 : x10_2 < (l0.length : Int) := of_decide_eq_true (by first | (with_reducible assumption) | assumption)
            obtain ⟨ad771, e771, hx771_0⟩ := Kd.at_int HR0.out x10_2 p771 q771
            cases e771
            replace hx771_0 := (HB.out.cell (World.block_lt_of_cell? w _ hx771_0)).trans hx771_0
            replace p771 := eq_true p771
            replace q771 := eq_true q771
            have p772 : 0 ≤ (x6_1 : Int) := of_decide_eq_true (by first | (with_reducible assumption) | assumption)
            have q772 : x6_1 < (l1.length : Int) := of_decide_eq_true (by first | (with_reducible assumption) | assumption)
            obtain ⟨ad772, e772, hx772_0⟩ := Kd.at_int HR1.out x6_1 p772 q772
            cases e772
            replace hx772_0 := (HB.out.cell (World.block_lt_of_cell? w _ hx772_0)).trans hx772_0
            replace p772 := eq_true p772
            replace q772 := eq_true q772
            iterate 2 (try go_wp2_with (first | ((with_reducible refine gate_builtin (b := .append) (xs := #[.tmp 43, .tmp 47]) rfl ?_); at_builtin; refine Kd.R_append (Kd.int .u32) (w0 := w) w.heap.size rfl (.tmp 43) (.tmp 47) 22 47 (.int .u32 0) 4 rfl Try.underlying22 info47 rfl (by decide) (by omega) u8 x8_2 ((Int.tmod (IntKind.u64.wrap ((IntKind.u64.wrap ((IntKind.u64.wrap (rd l0 x10_2)) * (IntKind.u64.wrap (rd l1 x6_1)))) + x9_2)) 4294967296) % 4294967296) [.int .u32 ((Int.tmod (IntKind.u64.wrap ((IntKind.u64.wrap ((IntKind.u64.wrap (rd l0 x10_2)) * (IntKind.u64.wrap (rd l1 x6_1)))) + x9_2)) 4294967296) % 4294967296)] (fun k_ => some k_ ≠ (v769 : Value).ownBlock) (fun _ => False) rfl rfl ?aP (fun _ hk => hk.elim) ?aF ?aO ?aB ?aS ?aL ?_; (case aP => exact rfl); (case aB => exact (bw_ HB.out)); (case aF => exact (fun k_ hk => Kd.fresh' (Kd.R_lt (kr_ HO_5.out)) k_ hk)); (case aO => exact (kr_ HO_8.out)); (case aS => exact (below_size (bw_ HB.out))); (case aL => have := LMc13.out; omega); intro v774 w14 ho hb hg hat; rw [← Ny773.out] at ho; have n0_ := Aside0.mk (Kd.R_after (ok := (fun _ => True)) (kr_ (Kd.R_mono HO_5.out (fun _ hk => by first | exact ⟨trivial, hk⟩ | (simp only [ob_map] at hk ⊢; exact ⟨trivial, hk⟩)))) hg hat); have n1_ := Aside0.mk (hb); have n2_ := Aside0.mk (ho); clear HO_5; clear HB; clear HO_8; have HO_5 := n0_; have HB := n1_; have HO775 := n2_; clear n0_ n1_ n2_; clear ho hb hg hat)); try (go_quiet (fail)))
            go_roundg k2
            case measure => have := HK1.out; have := HK2.out; omega
            case rel => exact ⟨(y773), (IntKind.u64.wrap (Int.tdiv (IntKind.u64.wrap ((IntKind.u64.wrap ((IntKind.u64.wrap (rd l0 x10_2)) * (IntKind.u64.wrap (rd l1 x6_1)))) + x9_2)) 4294967296)), (wrap64 (x10_2 + 1)), (by first | rfl | (simp; done) | (simp [*]; done)), (by first | rfl | (simp; done) | (simp [*]; done)), H', ⟨by have := HK1.out; have := HK2.out; omega⟩, ⟨by (with_reducible repeat (first | apply Kd.R_alloc | apply Kd.R_drewN | apply Kd.R_drew)); exact Kd.R_mono HO_5.out (fun _ hk => hk.2)⟩, ⟨by (with_reducible repeat (first | apply Kd.R_alloc | apply Kd.R_drewN | apply Kd.R_drew)); exact HO775.out⟩, ⟨bw_ HB.out⟩⟩
           ·rw [if_neg c13] at H
            exact absurd H (by simp)
          ·rw [if_neg c12] at H
           exact absurd H (by simp)
         ·rw [if_neg c11] at H
          exact absurd H (by simp)
        ·rw [if_neg c10] at H
         exact absurd H (by simp)
       ·rw [if_neg c9] at H
        have c9b0 : decide (x10_2 < (l0.length : Int)) = false := decide_eq_false c9
        clear c9
        by_cases c15 : x8_2.length < 35184372088832
        ·rw [if_pos c15] at H
         have LMc15 := Aside0.mk c15
         clear c15
         obtain ⟨y776, hy776⟩ : ∃ y_ : List Int, y_ = (x8_2 ++ [(x9_2) % 4294967296]) := ⟨_, rfl⟩
         replace H : ((pelorusref01_Add.f k2 y768 y776).bind fun t779 => (pelorusref01_Mul.l0 k2 l0 l1 t779 (wrap64 (x6_1 - 1)))) = some r := by first | (rw [hy776]; with_reducible exact H) | (have H2_ := (Option.bind_some _ _).symm.trans H; rw [hy776]; with_reducible exact H2_) | (have H2_ := (Option.bind_some _ _).symm.trans H; with_reducible exact H2_) | with_reducible exact H | (rw [hy776]; exact H) | exact H
         have Ny776 := Aside0.mk hy776
         clear hy776
         replace H := Option.bind_eq_some_iff.mp H
         obtain ⟨t779, A160, H⟩ := H
         (try dsimp only at H)
         have A16 := Aside0.mk A160
         clear A160
         have H' := Aside0.mk H
         clear H
         iterate 2 (try go_wp2_with (first | ((with_reducible refine gate_builtin (b := .append) (xs := #[.tmp 51, .tmp 54]) rfl ?_); at_builtin; refine Kd.R_append (Kd.int .u32) (w0 := w) w.heap.size rfl (.tmp 51) (.tmp 54) 22 47 (.int .u32 0) 4 rfl Try.underlying22 info47 rfl (by decide) (by omega) u8 x8_2 ((x9_2) % 4294967296) [.int .u32 ((x9_2) % 4294967296)] (fun k_ => some k_ ≠ (v769 : Value).ownBlock) (fun _ => False) rfl rfl ?aP (fun _ hk => hk.elim) ?aF ?aO ?aB ?aS ?aL ?_; (case aP => exact rfl); (case aB => exact (bw_ HB.out)); (case aF => exact (fun k_ hk => Kd.fresh' (Kd.R_lt (kr_ HO_5.out)) k_ hk)); (case aO => exact (kr_ HO_8.out)); (case aS => exact (below_size (bw_ HB.out))); (case aL => have := LMc15.out; omega); intro v777 w17 ho hb hg hat; rw [← Ny776.out] at ho; have n0_ := Aside0.mk (Kd.R_after (ok := (fun _ => True)) (kr_ (Kd.R_mono HO_5.out (fun _ hk => by first | exact ⟨trivial, hk⟩ | (simp only [ob_map] at hk ⊢; exact ⟨trivial, hk⟩)))) hg hat); have n1_ := Aside0.mk (hb); have n2_ := Aside0.mk (ho); clear HO_5; clear HB; clear HO_8; have HO_5 := n0_; have HB := n1_; have HO778 := n2_; clear n0_ n1_ n2_; clear ho hb hg hat; obtain ⟨Ao18, co18, eo18⟩ := Kd.R_slice HO_5.out; subst eo18; obtain ⟨Ao19, co19, eo19⟩ := Kd.R_slice HO778.out; subst eo19) | (go_at_call 46; (with_reducible refine (pelorusref01_Add.calls k2 _ _ y768 _ _ y776 t779 _ ?side1 ?side2 ?side3 ?side4 A16.out).mono ?_); (case side1 => exact kc_ (Kd.R_reads' HO_5.out).2.2); (case side2 => exact (Kd.R_reads' HO_5.out).2.1); (case side3 => exact kc_ (Kd.R_reads' HO778.out).2.2); (case side4 => exact (Kd.R_reads' HO778.out).2.1); rintro e w20 ⟨v780, rfl, ho0, hb⟩; have HO781 := Aside0.mk (Kd.R_lower (Kd.R_new' (Kd.R_new' ho0 (Kd.R_lt (kr_ HO_5.out))) (Kd.R_lt (kr_ HO778.out))) (below_size (bw_ HB.out))); replace HO_5 := Aside0.mk (Kd.R_elder' (kr_ HO_5.out) (Kd.R_base ho0) hb); replace HO778 := Aside0.mk (Kd.R_elder' (kr_ HO778.out) (Kd.R_base ho0) hb); replace HB := bq_ HB hb; (try clear hb); (try clear hb2); (try clear hk); (try clear hi); (try clear ho0))); try (go_quiet (fail)))
         go_roundg k2
         case measure => have := HK1.out; have := HK2.out; omega
         case rel => exact ⟨(t779), (wrap64 (x6_1 - 1)), (by first | rfl | (simp; done) | (simp [*]; done)), H', ⟨by have := HK1.out; have := HK2.out; omega⟩, ⟨by (with_reducible repeat (first | apply Kd.R_alloc | apply Kd.R_drewN | apply Kd.R_drew)); exact Kd.R_mono HO781.out (fun _ hk => trivial)⟩, ⟨bw_ HB.out⟩⟩
        ·rw [if_neg c15] at H
         exact absurd H (by simp)
    ·rw [if_neg c4] at H
     exact absurd H (by simp)
   ·rw [if_neg c3] at H
    have c3b0 : decide (0 ≤ x6_1) = false := decide_eq_false c3
    clear c3
    replace H := Option.bind_eq_some_iff.mp H
    obtain ⟨t762, A210, H⟩ := H
    (try dsimp only at H)
    have A21 := Aside0.mk A210
    clear A210
    obtain rfl := Option.some.inj H
    obtain ⟨Ao22, co22, eo22⟩ := Kd.R_slice HO_5.out
    subst eo22
    iterate 2 (try go_wp2_with (first | (go_at_call 41; (with_reducible refine (pelorusref01_Trim.calls k1 _ _ x5_1 t762 _ ?side1 ?side2 A21.out).mono ?_); (case side1 => exact kc_ (Kd.R_reads' HO_5.out).2.2); (case side2 => exact (Kd.R_reads' HO_5.out).2.1); rintro e w23 ⟨v763, rfl, ho0, hb⟩; have HO764 := Aside0.mk (Kd.R_lower (Kd.R_new' ho0 (Kd.R_lt (kr_ HO_5.out))) (below_size (bw_ HB.out))); replace HO_5 := Aside0.mk (Kd.R_elder' (kr_ HO_5.out) (Kd.R_base ho0) hb); replace HB := bq_ HB hb; (try clear hb); (try clear hb2); (try clear hk); (try clear hi); (try clear ho0))); try (go_quiet (fail)))
    go_ret
    exact ⟨_, rf_, by (with_reducible repeat (first | apply Kd.R_alloc | apply Kd.R_drewN | apply Kd.R_drew)); exact Kd.R_mono HO764.out (fun _ hk => trivial), bw_ HB.out⟩

end Go.Proofs.Ytbejmpocgnldnaa.PA
