-- Laid by this work's own program; Lean checks it.
import Derived.Test.YthlhogcnfaiphaaPAx0
import Derived.Test.YthlhogcnfaiphaaPAx2
import Derived.Test.YthlhogcnfaiphaaPAx9
import Derived.Test.YthlhogcnfaiphaaPAx11
import Derived.Test.YthlhogcnfaiphaaPAx12
namespace Go.Proofs.Ythlhogcnfaiphaa.PA
open Go.RowKit Go.Proofs.YthlhogcnfaiphaaW.PrintWords Go.Proofs.YthlhogcnfaiphaaW.PrintLast Go.Proofs.YthlhogcnfaiphaaW.PrintMore
attribute [local go_sem] max2_int min2_int max_two min_two max_three min_three max_four min_four   -- for this text's walks alone
set_option linter.unusedVariables false
set_option linter.unusedSimpArgs false

attribute [local go_sem ↓ high] isSome_set_
/-! ### pelorusref02_Two: function 65 -/
theorem pelorusref02_Two.tab1 : rtab .any (opsOf Try.f65 1) = pelorusref02_Two.T1 := by kernel_rfl
theorem pelorusref02_Two.bits1 : waitsOk pelorusref02_Two.T1.2 pelorusref02_Two.B1 = true := by kernel_rfl
set_option maxHeartbeats 8000000 in
set_option maxRecDepth 100000 in
theorem pelorusref02_Two.calls (k : Nat) (a0_0 : Bool) (A0_1 : Option Addr) (c0_1 : Nat) (l0_1 : List Int) (a1_0 : Bool) (A1_1 : Option Addr) (c1_1 : Nat) (l1_1 : List Int) (r1 : Bool) (r2 : List Int) (w : World) (hr0_1 : Kd.C (Kd.int .u32) w A0_1 l0_1.length l0_1) (hc0_1 : l0_1.length ≤ c0_1) (hr1_1 : Kd.C (Kd.int .u32) w A1_1 l1_1.length l1_1) (hc1_1 : l1_1.length ≤ c1_1) (h : pelorusref02_Two.f k a0_0 l0_1 a1_0 l1_1 = some (r1, r2)) :
  Calls Try.prog 65 #[.agg #[.bool a0_0, .slice A0_1 l0_1.length c0_1], .agg #[.bool a1_0, .slice A1_1 l1_1.length c1_1]] w fun e w' => ∃ v1_ : Value, e = .returned (.agg #[.bool r1, v1_]) ∧ Kd.R (Kd.int .u32) 68 w' w.heap.size (fun _ => True) v1_ r2 ∧ Below w.heap.size w w' := by
 have hu48 := Try.underlying48
 have HR0_1 := Aside0.mk hr0_1
 have HC0_1 := Aside0.mk hc0_1
 clear hr0_1 hc0_1
 have HR1_1 := Aside0.mk hr1_1
 have HC1_1 := Aside0.mk hc1_1
 clear hr1_1 hc1_1
 have HB := Aside0.mk (Below.refl w.heap.size w)
 have H : ((pelorusref01_Mul.f k l0_1 l1_1).bind fun t751 => ((pelorusref02_Make.f k (a0_0 != a1_0) t751).bind fun bt754 => (some (bt754.1, bt754.2)))) = some (r1, r2) := h
 clear h
 replace H := Option.bind_eq_some_iff.mp H
 obtain ⟨t751, A30, H⟩ := H
 (try dsimp only at H)
 have A3 := Aside0.mk A30
 clear A30
 replace H := Option.bind_eq_some_iff.mp H
 obtain ⟨⟨t754, t755⟩, A40, H⟩ := H
 (try dsimp only at H)
 have A4 := Aside0.mk A40
 clear A40
 simp only [Option.some.injEq, Prod.mk.injEq] at H
 obtain ⟨rfl, rfl⟩ := H
 go_enter Try.func65, Try.ntmps65
 try go_wp2_with (first | ((with_reducible refine gate_dst (N := 2) rfl ?_); refine bx_ 2 #[.bool a0_0, .slice A0_1 l0_1.length c0_1] 48 ?_; intro gb748 hg w5 hbox hb; have n0_ := bq_ HB hb; have n1_ := Aside0.mk (hbox); have n2_ := ge_ hg HB; have n3_ := ge_ hg HB; clear HB; have HB := n0_; have BK748 := n1_; have GW748 := n2_; have GE748 := n3_; clear n0_ n1_ n2_ n3_; clear hb hbox hg) | ((with_reducible refine gate_dst (N := 3) rfl ?_); refine bx_ 3 #[.bool a1_0, .slice A1_1 l1_1.length c1_1] 48 ?_; intro gb749 hg w6 hbox hb; have n0_ := kq_ BK748 hb; have n1_ := bq_ HB hb; have n2_ := Aside0.mk (hbox); have n3_ := ge_ hg HB; have n4_ := ge_ hg HB; have n5_ := nb_ hg BK748; have n6_ := nc_ hg BK748; clear BK748; clear HB; have BK748 := n0_; have HB := n1_; have BK749 := n2_; have GW749 := n3_; have GE749 := n4_; have NB748_749 := n5_; have NB749_748 := n6_; clear n0_ n1_ n2_ n3_ n4_ n5_ n6_; clear hb hbox hg) | ((with_reducible refine gate_dst (N := 4) rfl ?_); refine bx_ 4 #[.bool false, .slice none 0 0] 48 ?_; intro gb750 hg w7 hbox hb; have n0_ := kq_ BK748 hb; have n1_ := kq_ BK749 hb; have n2_ := bq_ HB hb; have n3_ := Aside0.mk (hbox); have n4_ := ge_ hg HB; have n5_ := ge_ hg HB; have n6_ := nb_ hg BK748; have n7_ := nc_ hg BK748; have n8_ := nb_ hg BK749; have n9_ := nc_ hg BK749; clear BK748; clear BK749; clear HB; have BK748 := n0_; have BK749 := n1_; have HB := n2_; have BK750 := n3_; have GW750 := n4_; have GE750 := n5_; have NB748_750 := n6_; have NB750_748 := n7_; have NB749_750 := n8_; have NB750_749 := n9_; clear n0_ n1_ n2_ n3_ n4_ n5_ n6_ n7_ n8_ n9_; clear hb hbox hg))
 have n0_ := Aside0.mk (blk_drew BK748.out)
 have n1_ := Aside0.mk (blk_drew BK749.out)
 have n2_ := Aside0.mk (blk_drew BK750.out)
 have n3_ := Aside0.mk (below_drew1 HB.out)
 clear BK748
 clear BK749
 clear BK750
 clear HB
 have BK748 := n0_
 have BK749 := n1_
 have BK750 := n2_
 have HB := n3_
 clear n0_ n1_ n2_ n3_
 refine start_ (n := 12) (S := fun w' => w'.cell? ⟨gb748, 0, none⟩ = some (.bool a0_0) ∧ w'.cell? ⟨gb748, 1, none⟩ = some (.slice A0_1 l0_1.length c0_1) ∧ w'.cell? ⟨gb749, 0, none⟩ = some (.bool a1_0) ∧ w'.cell? ⟨gb749, 1, none⟩ = some (.slice A1_1 l1_1.length c1_1)) (ds := []) #[false, false, false, false, false, false, false, false, false, false, false, false] (by kernel_rfl) rfl rfl ⟨(blk_cell BK748.out 0).trans rfl, (blk_cell BK748.out 1).trans rfl, (blk_cell BK749.out 0).trans rfl, (blk_cell BK749.out 1).trans rfl⟩ (fun hHeld => ?_); refine with_tabW pelorusref02_Two.tab1 pelorusref02_Two.bits1 (fun HT_ HW_ => ?_)
 generalize w7.drew = w8 at BK748 BK749 BK750 HB hHeld ⊢
 refine pure_ (i := 0) (N := some 5) (v := ?_) (a' := ?_) #[true, false, false, false, false, false, false, false, false, false, false, false] rfl rfl (any_of HT_.out (by kernel_rfl)) (fun _ _ _ h => h) (Or.inl ⟨by rfl, ?_⟩) ?_ ?_
 rotate_left
 ·intro w'
  go_simp
  with_reducible rfl
 rotate_left
 ·simp only [Act.put, List.setIfInBounds_toArray, List.set_cons_zero, List.set_cons_succ, i64_w, i32_w]
  rfl
 refine pure_ (i := 2) (N := some 7) (v := ?_) (a' := ?_) #[true, false, true, false, false, false, false, false, false, false, false, false] rfl rfl (any_of HT_.out (by kernel_rfl)) (fun _ _ _ h => h) (Or.inl ⟨by rfl, ?_⟩) ?_ ?_
 rotate_left
 ·intro w'
  go_simp
  with_reducible rfl
 rotate_left
 ·simp only [Act.put, List.setIfInBounds_toArray, List.set_cons_zero, List.set_cons_succ, i64_w, i32_w]
  rfl
 refine pure_ (i := 5) (N := some 10) (v := ?_) (a' := ?_) #[true, false, true, false, false, true, false, false, false, false, false, false] rfl rfl (any_of HT_.out (by kernel_rfl)) (fun _ _ _ h => h) (Or.inl ⟨by rfl, ?_⟩) ?_ ?_
 rotate_left
 ·intro w'
  go_simp
  with_reducible rfl
 rotate_left
 ·simp only [Act.put, List.setIfInBounds_toArray, List.set_cons_zero, List.set_cons_succ, i64_w, i32_w]
  rfl
 refine pure_ (i := 7) (N := some 12) (v := ?_) (a' := ?_) #[true, false, true, false, false, true, false, true, false, false, false, false] rfl rfl (any_of HT_.out (by kernel_rfl)) (fun _ _ _ h => h) (Or.inl ⟨by rfl, ?_⟩) ?_ ?_
 rotate_left
 ·intro w'
  go_simp
  with_reducible rfl
 rotate_left
 ·simp only [Act.put, List.setIfInBounds_toArray, List.set_cons_zero, List.set_cons_succ, i64_w, i32_w]
  rfl
 refine take_ (i := 1) (N := some 6) (v := ?_) (a' := ?_) #[true, true, true, false, false, true, false, true, false, false, false, false] rfl rfl (take_ofW HT_.out HW_.out (by kernel_rfl)) (fun _ _ _ h => h) (Or.inl ⟨by rfl, ?_⟩) hHeld ?_ ?_
 rotate_left
 ·rintro w' ⟨s0, s1, s2, s3⟩
  go_simp
  with_reducible rfl
 rotate_left
 ·simp only [Act.put, List.setIfInBounds_toArray, List.set_cons_zero, List.set_cons_succ, i64_w, i32_w]
  rfl
 refine take_ (i := 3) (N := some 8) (v := ?_) (a' := ?_) #[true, true, true, true, false, true, false, true, false, false, false, false] rfl rfl (take_ofW HT_.out HW_.out (by kernel_rfl)) (fun _ _ _ h => h) (Or.inl ⟨by rfl, ?_⟩) hHeld ?_ ?_
 rotate_left
 ·rintro w' ⟨s0, s1, s2, s3⟩
  go_simp
  with_reducible rfl
 rotate_left
 ·simp only [Act.put, List.setIfInBounds_toArray, List.set_cons_zero, List.set_cons_succ, i64_w, i32_w]
  rfl
 refine pure_ (i := 4) (N := some 9) (v := ?_) (a' := ?_) #[true, true, true, true, true, true, false, true, false, false, false, false] rfl rfl (any_of HT_.out (by kernel_rfl)) (fun _ _ _ h => h) (Or.inl ⟨by rfl, ?_⟩) ?_ ?_
 rotate_left
 ·intro w'
  go_simp
  with_reducible rfl
 rotate_left
 ·simp only [Act.put, List.setIfInBounds_toArray, List.set_cons_zero, List.set_cons_succ, i64_w, i32_w]
  rfl
 refine take_ (i := 6) (N := some 11) (v := ?_) (a' := ?_) #[true, true, true, true, true, true, true, true, false, false, false, false] rfl rfl (take_ofW HT_.out HW_.out (by kernel_rfl)) (fun _ _ _ h => h) (Or.inl ⟨by rfl, ?_⟩) hHeld ?_ ?_
 rotate_left
 ·rintro w' ⟨s0, s1, s2, s3⟩
  go_simp
  with_reducible rfl
 rotate_left
 ·simp only [Act.put, List.setIfInBounds_toArray, List.set_cons_zero, List.set_cons_succ, i64_w, i32_w]
  rfl
 refine take_ (i := 8) (N := some 13) (v := ?_) (a' := ?_) #[true, true, true, true, true, true, true, true, true, false, false, false] rfl rfl (take_ofW HT_.out HW_.out (by kernel_rfl)) (fun _ _ _ h => h) (Or.inl ⟨by rfl, ?_⟩) hHeld ?_ ?_
 rotate_left
 ·rintro w' ⟨s0, s1, s2, s3⟩
  go_simp
  with_reducible rfl
 rotate_left
 ·simp only [Act.put, List.setIfInBounds_toArray, List.set_cons_zero, List.set_cons_succ, i64_w, i32_w]
  rfl
 refine one_ (i := 9) (N := some 14) #[true, true, true, true, true, true, true, true, true, true, false, false] rfl rfl (one_of HT_.out (by kernel_rfl)) (by decide) (fun K hK => ?_)
 refine gs_ Try.func70 #[.slice A0_1 l0_1.length c0_1, .slice A1_1 l1_1.length c1_1] ?_
 with_reducible refine (pelorusref01_Mul.calls k _ _ l0_1 _ _ l1_1 t751 _ ?side1 ?side2 ?side3 ?side4 A3.out).mono ?_
 (case side1 => repeat (first | exact (Kd.C_below HR0_1.out HB.out) | (with_reducible refine Kd.C_alloc ?_ _) | (with_reducible refine Kd.C_drewN ?_ _) | (with_reducible refine Kd.C_drew ?_)))
 (case side2 => exact HC0_1.out)
 (case side3 => repeat (first | exact (Kd.C_below HR1_1.out HB.out) | (with_reducible refine Kd.C_alloc ?_ _) | (with_reducible refine Kd.C_drewN ?_ _) | (with_reducible refine Kd.C_drew ?_)))
 (case side4 => exact HC1_1.out)
 rintro e w9 ⟨v752, rfl, ho0, hb⟩
 refine ⟨_, rfl, ?_⟩
 have n0_ := Aside0.mk (Kd.R_lower ho0 (below_size (bw_ HB.out)))
 have n1_ := kq_ BK748 hb
 have n2_ := kq_ BK749 hb
 have n3_ := kq_ BK750 hb
 have n4_ := bq_ HB hb
 clear BK748
 clear BK749
 clear BK750
 clear HB
 have HO753 := n0_
 have BK748 := n1_
 have BK749 := n2_
 have BK750 := n3_
 have HB := n4_
 clear n0_ n1_ n2_ n3_ n4_
 (try clear hb)
 (try clear hb2)
 (try clear hk)
 (try clear hi)
 (try clear ho0)
 obtain ⟨Ao10, co10, eo10⟩ := Kd.R_slice HO753.out
 (first | subst eo10 | (injection eo10 with f1_ f2_ f3_; have f4_ := f1_.symm; have f5_ := f3_.symm; clear f1_ f2_ f3_; subst f4_; subst f5_))
 refine hK.out _ _ ⟨(blk_cell BK748.out 0).trans rfl, (blk_cell BK748.out 1).trans rfl, (blk_cell BK749.out 0).trans rfl, (blk_cell BK749.out 1).trans rfl⟩ (fun hHeld => ?_)
 clear hK K
 refine norm_ (a' := ?_) ?_ ?_
 rotate_left
 ·show Act.put _ (some 14) _ = _
  simp only [Act.put, List.setIfInBounds_toArray, List.set_cons_zero, List.set_cons_succ, i64_w, i32_w]
  rfl
 refine one_ (i := 10) (N := some 15) #[true, true, true, true, true, true, true, true, true, true, true, false] rfl rfl (one_of HT_.out (by kernel_rfl)) (by decide) (fun K hK => ?_)
 refine gs_ Try.func55 #[.bool (a0_0 != a1_0), .slice Ao10 t751.length co10] ?_
 with_reducible refine (pelorusref02_Make.calls k (a0_0 != a1_0) _ _ t751 t754 t755 _ ?side1 ?side2 A4.out).mono ?_
 (case side1 => repeat (first | exact (Kd.R_reads' HO753.out).2.2 | (with_reducible refine Kd.C_alloc ?_ _) | (with_reducible refine Kd.C_drewN ?_ _) | (with_reducible refine Kd.C_drew ?_)))
 (case side2 => exact (Kd.R_reads' HO753.out).2.1)
 rintro e w11 ⟨v756, rfl, ho0, hb⟩
 refine ⟨_, rfl, ?_⟩
 have n0_ := Aside0.mk (Kd.R_elder' (by (with_reducible repeat (first | apply Kd.R_alloc | apply Kd.R_drewN | apply Kd.R_drew)); exact HO753.out) (Kd.R_base ho0) hb)
 have n1_ := Aside0.mk (Kd.R_lower (Kd.R_new' ho0 (Kd.R_lt (by (with_reducible repeat (first | apply Kd.R_alloc | apply Kd.R_drewN | apply Kd.R_drew)); exact HO753.out))) (below_size (bw_ HB.out)))
 have n2_ := kq_ BK748 hb
 have n3_ := kq_ BK749 hb
 have n4_ := kq_ BK750 hb
 have n5_ := bq_ HB hb
 clear HO753
 clear BK748
 clear BK749
 clear BK750
 clear HB
 have HO753 := n0_
 have HO757 := n1_
 have BK748 := n2_
 have BK749 := n3_
 have BK750 := n4_
 have HB := n5_
 clear n0_ n1_ n2_ n3_ n4_ n5_
 (try clear hb)
 (try clear hb2)
 (try clear hk)
 (try clear hi)
 (try clear ho0)
 obtain ⟨Ao13, co13, eo13⟩ := Kd.R_slice HO757.out
 (first | subst eo13 | (injection eo13 with f1_ f2_ f3_; have f4_ := f1_.symm; have f5_ := f3_.symm; clear f1_ f2_ f3_; subst f4_; subst f5_))
 refine hK.out _ _ ⟨(blk_cell BK748.out 0).trans rfl, (blk_cell BK748.out 1).trans rfl, (blk_cell BK749.out 0).trans rfl, (blk_cell BK749.out 1).trans rfl⟩ (fun hHeld => ?_)
 clear hK K
 refine norm_ (a' := ?_) ?_ ?_
 rotate_left
 ·show Act.put _ (some 15) _ = _
  simp only [Act.put, List.setIfInBounds_toArray, List.set_cons_zero, List.set_cons_succ, i64_w, i32_w]
  rfl
 refine one_ (i := 11) (N := none) #[true, true, true, true, true, true, true, true, true, true, true, true] rfl rfl (one_of HT_.out (by kernel_rfl)) (by decide) (fun K hK => ?_)
 have hs12 : w11.cell? ⟨gb750, 0, none⟩ = some (.bool false) := (blk_cell BK750.out 0).trans rfl
 have hfs12 := fz_ BK750 0
 have hns12_0 := NB748_750.out
 have hns12_1 := NB749_750.out
 have hms12_0 := NB750_748.out
 have hms12_1 := NB750_749.out
 have hs14 : w11.cell? ⟨gb750, 1, none⟩ = some (.slice none 0 0) := (blk_cell BK750.out 1).trans rfl
 have hfs14 := fz_ BK750 1
 have hns14_0 := NB748_750.out
 have hns14_1 := NB749_750.out
 have hms14_0 := NB750_748.out
 have hms14_1 := NB750_749.out
 refine skip_ (w1 := ?_) (by rfl) rfl ?_ ?_
 rotate_left
 ·go_simp
  rfl
 refine hK.out _ _ ⟨((cell_far (p := ⟨gb750, _, none⟩) NB748_750.out _).trans (((cell_far (p := ⟨gb750, _, none⟩) NB748_750.out _).trans (hHeld.1)))), ((cell_far (p := ⟨gb750, _, none⟩) NB748_750.out _).trans (((cell_far (p := ⟨gb750, _, none⟩) NB748_750.out _).trans (hHeld.2.1)))), ((cell_far (p := ⟨gb750, _, none⟩) NB749_750.out _).trans (((cell_far (p := ⟨gb750, _, none⟩) NB749_750.out _).trans (hHeld.2.2.1)))), ((cell_far (p := ⟨gb750, _, none⟩) NB749_750.out _).trans (((cell_far (p := ⟨gb750, _, none⟩) NB749_750.out _).trans (hHeld.2.2.2))))⟩ (fun hHeld => ?_)
 clear hK K
 refine done_ (done_of HT_.out (by kernel_rfl)) ?_
 try go_wp2
 refine bodyPost_ret (results_cell_row rfl _ _ gb750 48 #[.bool t754, .slice Ao13 t755.length co13] (0, 0) _ rfl (by refine kb_ ?_; refine bp_ #[.bool t754, .slice none 0 0] 1 ?_; refine bp_ #[.bool false, .slice none 0 0] 0 ?_; exact BK750.out) Try.underlying48 rfl (by kernel_rfl)) rfl ?_
 exact ⟨_, by first | rfl | (simp [errW_none, errW_some] <;> rfl) | (simp [*, errW_none, errW_some] <;> rfl), by (with_reducible repeat (first | apply Kd.R_alloc | apply Kd.R_drewN | apply Kd.R_drew)); exact Kd.R_mono (Kd.R_far (p := ⟨gb750, 1, none⟩) (Kd.R_far (p := ⟨gb750, 0, none⟩) (Kd.R_types HO757.out BK750.out (by decide)) (fun _ hk => hk.2) (.bool t754)) (fun _ hk => hk.2) (.slice Ao13 t755.length co13)) (fun _ hk => trivial), bw_ HB.out⟩

/-! ### pelorusref03_Mul: function 43 -/
theorem pelorusref03_Mul.tab3 : rtab .any (opsOf Try.f43 3) = pelorusref03_Mul.T3 := by kernel_rfl
theorem pelorusref03_Mul.bits3 : waitsOk pelorusref03_Mul.T3.2 pelorusref03_Mul.B3 = true := by kernel_rfl
set_option maxHeartbeats 8000000 in
set_option maxRecDepth 100000 in
theorem pelorusref03_Mul.calls (k : Nat) (a0_0 : Bool) (A0_1 : Option Addr) (c0_1 : Nat) (l0_1 : List Int) (a0_2 : Int) (a1_0 : Bool) (A1_1 : Option Addr) (c1_1 : Nat) (l1_1 : List Int) (a1_2 : Int) (r1 : Bool) (r2 : List Int) (r3 : Int) (w : World) (hr0_1 : Kd.C (Kd.int .u32) w A0_1 l0_1.length l0_1) (hc0_1 : l0_1.length ≤ c0_1) (hr1_1 : Kd.C (Kd.int .u32) w A1_1 l1_1.length l1_1) (hc1_1 : l1_1.length ≤ c1_1) (h : pelorusref03_Mul.f k a0_0 l0_1 a0_2 a1_0 l1_1 a1_2 = some (r1, r2, r3)) :
  Calls Try.prog 43 #[.agg #[.bool a0_0, .slice A0_1 l0_1.length c0_1, .int .i64 a0_2], .agg #[.bool a1_0, .slice A1_1 l1_1.length c1_1, .int .i64 a1_2]] w fun e w' => ∃ v1_ : Value, e = .returned (.agg #[.bool r1, v1_, .int .i64 r3]) ∧ Kd.R (Kd.int .u32) 68 w' w.heap.size (fun _ => True) v1_ r2 ∧ Below w.heap.size w w' := by
 have hu50 := Try.underlying50
 have hu48 := Try.underlying48
 have HR0_1 := Aside0.mk hr0_1
 have HC0_1 := Aside0.mk hc0_1
 clear hr0_1 hc0_1
 have HR1_1 := Aside0.mk hr1_1
 have HC1_1 := Aside0.mk hc1_1
 clear hr1_1 hc1_1
 have HB := Aside0.mk (Below.refl w.heap.size w)
 have H : ((pelorusref03_Make.f k a0_0 l0_1 a0_2).bind fun bt761 => ((pelorusref03_Make.f k a1_0 l1_1 a1_2).bind fun bt767 => ((pelorusref02_Two.f k bt761.1 bt761.2.1 bt767.1 bt767.2.1).bind fun bt773 => ((pelorusref03_Make.f k bt773.1 bt773.2 (wrap64 (bt761.2.2 + bt767.2.2))).bind fun bt777 => (some (bt777.1, bt777.2.1, bt777.2.2)))))) = some (r1, r2, r3) := h
 clear h
 replace H := Option.bind_eq_some_iff.mp H
 obtain ⟨⟨t761, t762, t765⟩, A30, H⟩ := H
 (try dsimp only at H)
 have A3 := Aside0.mk A30
 clear A30
 replace H := Option.bind_eq_some_iff.mp H
 obtain ⟨⟨t767, t768, t771⟩, A40, H⟩ := H
 (try dsimp only at H)
 have A4 := Aside0.mk A40
 clear A40
 replace H := Option.bind_eq_some_iff.mp H
 obtain ⟨⟨t773, t774⟩, A50, H⟩ := H
 (try dsimp only at H)
 have A5 := Aside0.mk A50
 clear A50
 replace H := Option.bind_eq_some_iff.mp H
 obtain ⟨⟨t777, t778, t781⟩, A60, H⟩ := H
 (try dsimp only at H)
 have A6 := Aside0.mk A60
 clear A60
 simp only [Option.some.injEq, Prod.mk.injEq] at H
 obtain ⟨rfl, rfl, rfl⟩ := H
 go_enter Try.func43, Try.ntmps43
 try go_wp2_with (first | ((with_reducible refine gate_dst (N := 2) rfl ?_); refine bx_ 2 #[.bool a0_0, .slice A0_1 l0_1.length c0_1, .int .i64 a0_2] 50 ?_; intro gb758 hg w7 hbox hb; have n0_ := bq_ HB hb; have n1_ := Aside0.mk (hbox); have n2_ := ge_ hg HB; have n3_ := ge_ hg HB; clear HB; have HB := n0_; have BK758 := n1_; have GW758 := n2_; have GE758 := n3_; clear n0_ n1_ n2_ n3_; clear hb hbox hg) | ((with_reducible refine gate_dst (N := 3) rfl ?_); refine bx_ 3 #[.bool a1_0, .slice A1_1 l1_1.length c1_1, .int .i64 a1_2] 50 ?_; intro gb759 hg w8 hbox hb; have n0_ := kq_ BK758 hb; have n1_ := bq_ HB hb; have n2_ := Aside0.mk (hbox); have n3_ := ge_ hg HB; have n4_ := ge_ hg HB; have n5_ := nb_ hg BK758; have n6_ := nc_ hg BK758; clear BK758; clear HB; have BK758 := n0_; have HB := n1_; have BK759 := n2_; have GW759 := n3_; have GE759 := n4_; have NB758_759 := n5_; have NB759_758 := n6_; clear n0_ n1_ n2_ n3_ n4_ n5_ n6_; clear hb hbox hg) | ((with_reducible refine gate_dst (N := 4) rfl ?_); refine bx_ 4 #[.bool false, .slice none 0 0, .int .i64 0] 50 ?_; intro gb760 hg w9 hbox hb; have n0_ := kq_ BK758 hb; have n1_ := kq_ BK759 hb; have n2_ := bq_ HB hb; have n3_ := Aside0.mk (hbox); have n4_ := ge_ hg HB; have n5_ := ge_ hg HB; have n6_ := nb_ hg BK758; have n7_ := nc_ hg BK758; have n8_ := nb_ hg BK759; have n9_ := nc_ hg BK759; clear BK758; clear BK759; clear HB; have BK758 := n0_; have BK759 := n1_; have HB := n2_; have BK760 := n3_; have GW760 := n4_; have GE760 := n5_; have NB758_760 := n6_; have NB760_758 := n7_; have NB759_760 := n8_; have NB760_759 := n9_; clear n0_ n1_ n2_ n3_ n4_ n5_ n6_ n7_ n8_ n9_; clear hb hbox hg; have hnb10 := NB758_759.out; have hnc10 := NB759_758.out; have hnb11 := NB758_760.out; have hnc11 := NB760_758.out; have hcz12_0 := cz_ BK758 0 rfl; have hcz12_1 := cz_ BK758 1 rfl; have hcz12_2 := cz_ BK758 2 rfl; have hfz12_0 := fz_ BK758 0; have hfz12_1 := fz_ BK758 1; have hfz12_2 := fz_ BK758 2) | ((with_reducible refine gate_callee (f := 54) rfl ?_); refine gl_ (some 11) Try.func54 #[.agg #[.bool a0_0, .slice A0_1 l0_1.length c0_1], .int .i64 a0_2] ?_; (with_reducible refine (pelorusref03_Make.calls k a0_0 _ _ l0_1 a0_2 t761 t762 t765 _ ?side1 ?side2 A3.out).mono ?_); (case side1 => repeat (first | exact (Kd.C_below HR0_1.out HB.out) | (with_reducible refine Kd.C_alloc ?_ _) | (with_reducible refine Kd.C_drewN ?_ _) | (with_reducible refine Kd.C_drew ?_))); (case side2 => exact HC0_1.out); rintro e w13 ⟨v763, rfl, ho0, hb⟩; refine ⟨_, rfl, ?_⟩; have n0_ := Aside0.mk (Kd.R_lower ho0 (below_size (bw_ HB.out))); have n1_ := kq_ BK758 hb; have n2_ := kq_ BK759 hb; have n3_ := kq_ BK760 hb; have n4_ := bq_ HB hb; clear BK758; clear BK759; clear BK760; clear HB; have HO764 := n0_; have BK758 := n1_; have BK759 := n2_; have BK760 := n3_; have HB := n4_; clear n0_ n1_ n2_ n3_ n4_; (try clear hb); (try clear hb2); (try clear hk); (try clear hi); (try clear ho0)) | ((with_reducible refine gate_dst (N := 5) rfl ?_); refine bx_ 5 #[.bool false, .slice none 0 0, .int .i64 0] 50 ?_; intro gb766 hg w14 hbox hb; have n0_ := Aside0.mk (Kd.R_below (by (with_reducible repeat (first | apply Kd.R_alloc | apply Kd.R_drewN | apply Kd.R_drew)); exact HO764.out) hb); have n1_ := kq_ BK758 hb; have n2_ := kq_ BK759 hb; have n3_ := kq_ BK760 hb; have n4_ := bq_ HB hb; have n5_ := Aside0.mk (hbox); have n6_ := ge_ hg HB; have n7_ := ge_ hg HB; have n8_ := nb_ hg BK758; have n9_ := nc_ hg BK758; have n10_ := nb_ hg BK759; have n11_ := nc_ hg BK759; have n12_ := nb_ hg BK760; have n13_ := nc_ hg BK760; clear HO764; clear BK758; clear BK759; clear BK760; clear HB; have HO764 := n0_; have BK758 := n1_; have BK759 := n2_; have BK760 := n3_; have HB := n4_; have BK766 := n5_; have GW766 := n6_; have GE766 := n7_; have NB758_766 := n8_; have NB766_758 := n9_; have NB759_766 := n10_; have NB766_759 := n11_; have NB760_766 := n12_; have NB766_760 := n13_; clear n0_ n1_ n2_ n3_ n4_ n5_ n6_ n7_ n8_ n9_ n10_ n11_ n12_ n13_; clear hb hbox hg; have hnb15 := NB766_758.out; have hnc15 := NB758_766.out; have hnb16 := NB766_759.out; have hnc16 := NB759_766.out; have hnb17 := NB766_760.out; have hnc17 := NB760_766.out; have hcz18_0 := cz_ BK766 0 rfl; have hcz18_1 := cz_ BK766 1 rfl; have hcz18_2 := cz_ BK766 2 rfl; have hfz18_0 := fz_ BK766 0; have hfz18_1 := fz_ BK766 1; have hfz18_2 := fz_ BK766 2; obtain ⟨Ao19, co19, eo19⟩ := Kd.R_slice HO764.out; subst eo19; have hnb20 := NB759_760.out; have hnc20 := NB760_759.out; have hcz21_0 := cz_ BK759 0 rfl; have hcz21_1 := cz_ BK759 1 rfl; have hcz21_2 := cz_ BK759 2 rfl; have hfz21_0 := fz_ BK759 0; have hfz21_1 := fz_ BK759 1; have hfz21_2 := fz_ BK759 2) | ((with_reducible refine gate_callee (f := 54) rfl ?_); refine gl_ (some 16) Try.func54 #[.agg #[.bool a1_0, .slice A1_1 l1_1.length c1_1], .int .i64 a1_2] ?_; (with_reducible refine (pelorusref03_Make.calls k a1_0 _ _ l1_1 a1_2 t767 t768 t771 _ ?side1 ?side2 A4.out).mono ?_); (case side1 => exact Kd.C_below HR1_1.out (bw_ HB.out)); (case side2 => exact HC1_1.out); rintro e w22 ⟨v769, rfl, ho0, hb⟩; refine ⟨_, rfl, ?_⟩; have n0_ := Aside0.mk (Kd.R_elder' (by (with_reducible repeat (first | apply Kd.R_alloc | apply Kd.R_drewN | apply Kd.R_drew)); exact (Kd.R_mono (Kd.R_far (p := ⟨gb766, 2, none⟩) (Kd.R_far (p := ⟨gb766, 1, none⟩) (Kd.R_far (p := ⟨gb766, 0, none⟩) (Kd.R_types HO764.out BK766.out (by decide)) (fun _ hk => hk.2) (.bool t761)) (fun _ hk => hk.2) (.slice Ao19 t762.length co19)) (fun _ hk => hk.2) (.int .i64 t765)) (fun _ h_ => h_.1))) (Kd.R_base ho0) hb); have n1_ := Aside0.mk (Kd.R_lower (Kd.R_new' ho0 (Kd.R_lt (by (with_reducible repeat (first | apply Kd.R_alloc | apply Kd.R_drewN | apply Kd.R_drew)); exact (Kd.R_mono (Kd.R_far (p := ⟨gb766, 2, none⟩) (Kd.R_far (p := ⟨gb766, 1, none⟩) (Kd.R_far (p := ⟨gb766, 0, none⟩) (Kd.R_types HO764.out BK766.out (by decide)) (fun _ hk => hk.2) (.bool t761)) (fun _ hk => hk.2) (.slice Ao19 t762.length co19)) (fun _ hk => hk.2) (.int .i64 t765)) (fun _ h_ => h_.1))))) (below_size (bw_ HB.out))); have n2_ := Aside0.mk (blk_below (g := gb758) (o := .cells #[.bool a0_0, .slice A0_1 l0_1.length c0_1, .int .i64 a0_2] 50 (0, 0)) (by refine kb_ ?_; refine bf_ NB758_766 ?_; refine bf_ NB758_766 ?_; refine bf_ NB758_766 ?_; exact BK758.out) hb); have n3_ := Aside0.mk (blk_below (g := gb759) (o := .cells #[.bool a1_0, .slice A1_1 l1_1.length c1_1, .int .i64 a1_2] 50 (0, 0)) (by refine kb_ ?_; refine bf_ NB759_766 ?_; refine bf_ NB759_766 ?_; refine bf_ NB759_766 ?_; exact BK759.out) hb); have n4_ := Aside0.mk (blk_below (g := gb760) (o := .cells #[.bool false, .slice none 0 0, .int .i64 0] 50 (0, 0)) (by refine kb_ ?_; refine bf_ NB760_766 ?_; refine bf_ NB760_766 ?_; refine bf_ NB760_766 ?_; exact BK760.out) hb); have n5_ := Aside0.mk (blk_below (g := gb766) (o := .cells #[.bool t761, .slice Ao19 t762.length co19, .int .i64 t765] 50 (0, 0)) (by refine kb_ ?_; refine bp_ #[.bool t761, .slice Ao19 t762.length co19, .int .i64 0] 2 ?_; refine bp_ #[.bool t761, .slice none 0 0, .int .i64 0] 1 ?_; refine bp_ #[.bool false, .slice none 0 0, .int .i64 0] 0 ?_; exact BK766.out) hb); have n6_ := bq_ HB hb; clear HO764; clear BK758; clear BK759; clear BK760; clear BK766; clear HB; have HO764 := n0_; have HO770 := n1_; have BK758 := n2_; have BK759 := n3_; have BK760 := n4_; have BK766 := n5_; have HB := n6_; clear n0_ n1_ n2_ n3_ n4_ n5_ n6_; (try clear hb); (try clear hb2); (try clear hk); (try clear hi); (try clear ho0)) | ((with_reducible refine gate_dst (N := 6) rfl ?_); refine bx_ 6 #[.bool false, .slice none 0 0, .int .i64 0] 50 ?_; intro gb772 hg w23 hbox hb; have n0_ := Aside0.mk (Kd.R_below (by (with_reducible repeat (first | apply Kd.R_alloc | apply Kd.R_drewN | apply Kd.R_drew)); exact HO764.out) hb); have n1_ := Aside0.mk (Kd.R_below (by (with_reducible repeat (first | apply Kd.R_alloc | apply Kd.R_drewN | apply Kd.R_drew)); exact HO770.out) hb); have n2_ := kq_ BK758 hb; have n3_ := kq_ BK759 hb; have n4_ := kq_ BK760 hb; have n5_ := kq_ BK766 hb; have n6_ := bq_ HB hb; have n7_ := Aside0.mk (hbox); have n8_ := ge_ hg HB; have n9_ := ge_ hg HB; have n10_ := nb_ hg BK758; have n11_ := nc_ hg BK758; have n12_ := nb_ hg BK759; have n13_ := nc_ hg BK759; have n14_ := nb_ hg BK760; have n15_ := nc_ hg BK760; have n16_ := nb_ hg BK766; have n17_ := nc_ hg BK766; clear HO764; clear HO770; clear BK758; clear BK759; clear BK760; clear BK766; clear HB; have HO764 := n0_; have HO770 := n1_; have BK758 := n2_; have BK759 := n3_; have BK760 := n4_; have BK766 := n5_; have HB := n6_; have BK772 := n7_; have GW772 := n8_; have GE772 := n9_; have NB758_772 := n10_; have NB772_758 := n11_; have NB759_772 := n12_; have NB772_759 := n13_; have NB760_772 := n14_; have NB772_760 := n15_; have NB766_772 := n16_; have NB772_766 := n17_; clear n0_ n1_ n2_ n3_ n4_ n5_ n6_ n7_ n8_ n9_ n10_ n11_ n12_ n13_ n14_ n15_ n16_ n17_; clear hb hbox hg; have hnb24 := NB772_758.out; have hnc24 := NB758_772.out; have hnb25 := NB772_759.out; have hnc25 := NB759_772.out; have hnb26 := NB772_760.out; have hnc26 := NB760_772.out; have hnb27 := NB772_766.out; have hnc27 := NB766_772.out; have hcz28_0 := cz_ BK772 0 rfl; have hcz28_1 := cz_ BK772 1 rfl; have hcz28_2 := cz_ BK772 2 rfl; have hfz28_0 := fz_ BK772 0; have hfz28_1 := fz_ BK772 1; have hfz28_2 := fz_ BK772 2; obtain ⟨Ao29, co29, eo29⟩ := Kd.R_slice HO770.out; subst eo29))
 have n0_ : Aside0 (Kd.R (Kd.int .u32) 68 (((w23.setCell ⟨gb772, 0, none⟩ (.bool t767)).setCell ⟨gb772, 1, none⟩ (.slice Ao29 t768.length co29)).setCell ⟨gb772, 2, none⟩ (.int .i64 t771)) w.heap.size (fun k_ => some k_ ≠ (.slice Ao29 t768.length co29 : Value).ownBlock) (.slice Ao19 t762.length co19) t762) := ⟨by (with_reducible repeat (first | apply Kd.R_alloc | apply Kd.R_drewN | apply Kd.R_drew)); exact Kd.R_mono (Kd.R_far (p := ⟨gb772, 2, none⟩) (Kd.R_far (p := ⟨gb772, 1, none⟩) (Kd.R_far (p := ⟨gb772, 0, none⟩) (Kd.R_types HO764.out BK772.out (by decide)) (fun _ hk => hk.2) (.bool t767)) (fun _ hk => hk.2) (.slice Ao29 t768.length co29)) (fun _ hk => hk.2) (.int .i64 t771)) (fun _ hk => hk.1.2)⟩
 have n1_ : Aside0 (Kd.R (Kd.int .u32) 68 (((w23.setCell ⟨gb772, 0, none⟩ (.bool t767)).setCell ⟨gb772, 1, none⟩ (.slice Ao29 t768.length co29)).setCell ⟨gb772, 2, none⟩ (.int .i64 t771)) w.heap.size (fun k_ => some k_ ≠ (.slice Ao19 t762.length co19 : Value).ownBlock) (.slice Ao29 t768.length co29) t768) := ⟨by (with_reducible repeat (first | apply Kd.R_alloc | apply Kd.R_drewN | apply Kd.R_drew)); exact Kd.R_mono (Kd.R_far (p := ⟨gb772, 2, none⟩) (Kd.R_far (p := ⟨gb772, 1, none⟩) (Kd.R_far (p := ⟨gb772, 0, none⟩) (Kd.R_types HO770.out BK772.out (by decide)) (fun _ hk => hk.2) (.bool t767)) (fun _ hk => hk.2) (.slice Ao29 t768.length co29)) (fun _ hk => hk.2) (.int .i64 t771)) (fun _ hk => hk.1.2)⟩
 have n2_ : Aside0 ((((w23.setCell ⟨gb772, 0, none⟩ (.bool t767)).setCell ⟨gb772, 1, none⟩ (.slice Ao29 t768.length co29)).setCell ⟨gb772, 2, none⟩ (.int .i64 t771)).heap[gb758]? = some (.cells #[.bool a0_0, .slice A0_1 l0_1.length c0_1, .int .i64 a0_2] 50 (0, 0))) := ⟨by refine kb_ ?_; refine bf_ NB758_772 ?_; refine bf_ NB758_772 ?_; refine bf_ NB758_772 ?_; exact BK758.out⟩
 have n3_ : Aside0 ((((w23.setCell ⟨gb772, 0, none⟩ (.bool t767)).setCell ⟨gb772, 1, none⟩ (.slice Ao29 t768.length co29)).setCell ⟨gb772, 2, none⟩ (.int .i64 t771)).heap[gb759]? = some (.cells #[.bool a1_0, .slice A1_1 l1_1.length c1_1, .int .i64 a1_2] 50 (0, 0))) := ⟨by refine kb_ ?_; refine bf_ NB759_772 ?_; refine bf_ NB759_772 ?_; refine bf_ NB759_772 ?_; exact BK759.out⟩
 have n4_ : Aside0 ((((w23.setCell ⟨gb772, 0, none⟩ (.bool t767)).setCell ⟨gb772, 1, none⟩ (.slice Ao29 t768.length co29)).setCell ⟨gb772, 2, none⟩ (.int .i64 t771)).heap[gb760]? = some (.cells #[.bool false, .slice none 0 0, .int .i64 0] 50 (0, 0))) := ⟨by refine kb_ ?_; refine bf_ NB760_772 ?_; refine bf_ NB760_772 ?_; refine bf_ NB760_772 ?_; exact BK760.out⟩
 have n5_ : Aside0 ((((w23.setCell ⟨gb772, 0, none⟩ (.bool t767)).setCell ⟨gb772, 1, none⟩ (.slice Ao29 t768.length co29)).setCell ⟨gb772, 2, none⟩ (.int .i64 t771)).heap[gb766]? = some (.cells #[.bool t761, .slice Ao19 t762.length co19, .int .i64 t765] 50 (0, 0))) := ⟨by refine kb_ ?_; refine bf_ NB766_772 ?_; refine bf_ NB766_772 ?_; refine bf_ NB766_772 ?_; exact BK766.out⟩
 have n6_ : Aside0 ((((w23.setCell ⟨gb772, 0, none⟩ (.bool t767)).setCell ⟨gb772, 1, none⟩ (.slice Ao29 t768.length co29)).setCell ⟨gb772, 2, none⟩ (.int .i64 t771)).heap[gb772]? = some (.cells #[.bool t767, .slice Ao29 t768.length co29, .int .i64 t771] 50 (0, 0))) := ⟨by refine kb_ ?_; refine bp_ #[.bool t767, .slice Ao29 t768.length co29, .int .i64 0] 2 ?_; refine bp_ #[.bool t767, .slice none 0 0, .int .i64 0] 1 ?_; refine bp_ #[.bool false, .slice none 0 0, .int .i64 0] 0 ?_; exact BK772.out⟩
 have n7_ : Aside0 (Below w.heap.size w (((w23.setCell ⟨gb772, 0, none⟩ (.bool t767)).setCell ⟨gb772, 1, none⟩ (.slice Ao29 t768.length co29)).setCell ⟨gb772, 2, none⟩ (.int .i64 t771))) := ⟨bw_ HB.out⟩
 (try clear HO764)
 (try clear HO770)
 (try clear BK758)
 (try clear BK759)
 (try clear BK760)
 (try clear BK766)
 (try clear BK772)
 (try clear HB)
 generalize (((w23.setCell ⟨gb772, 0, none⟩ (.bool t767)).setCell ⟨gb772, 1, none⟩ (.slice Ao29 t768.length co29)).setCell ⟨gb772, 2, none⟩ (.int .i64 t771)) = w30 at n0_ n1_ n2_ n3_ n4_ n5_ n6_ n7_ ⊢
 have HO764 := n0_
 have HO770 := n1_
 have BK758 := n2_
 have BK759 := n3_
 have BK760 := n4_
 have BK766 := n5_
 have BK772 := n6_
 have HB := n7_
 clear n0_ n1_ n2_ n3_ n4_ n5_ n6_ n7_
 have n0_ := Aside0.mk (Kd.R_drew HO764.out)
 have n1_ := Aside0.mk (Kd.R_drew HO770.out)
 have n2_ := Aside0.mk (blk_drew BK758.out)
 have n3_ := Aside0.mk (blk_drew BK759.out)
 have n4_ := Aside0.mk (blk_drew BK760.out)
 have n5_ := Aside0.mk (blk_drew BK766.out)
 have n6_ := Aside0.mk (blk_drew BK772.out)
 have n7_ := Aside0.mk (below_drew1 HB.out)
 clear HO764
 clear HO770
 clear BK758
 clear BK759
 clear BK760
 clear BK766
 clear BK772
 clear HB
 have HO764 := n0_
 have HO770 := n1_
 have BK758 := n2_
 have BK759 := n3_
 have BK760 := n4_
 have BK766 := n5_
 have BK772 := n6_
 have HB := n7_
 clear n0_ n1_ n2_ n3_ n4_ n5_ n6_ n7_
 refine start_ (n := 12) (S := fun w' => w'.cell? ⟨gb766, 0, none⟩ = some (.bool t761) ∧ w'.cell? ⟨gb766, 1, none⟩ = some (.slice Ao19 t762.length co19) ∧ w'.cell? ⟨gb766, 2, none⟩ = some (.int .i64 t765) ∧ w'.cell? ⟨gb772, 0, none⟩ = some (.bool t767) ∧ w'.cell? ⟨gb772, 1, none⟩ = some (.slice Ao29 t768.length co29) ∧ w'.cell? ⟨gb772, 2, none⟩ = some (.int .i64 t771)) (ds := []) #[false, false, false, false, false, false, false, false, false, false, false, false] (by kernel_rfl) rfl rfl ⟨(blk_cell BK766.out 0).trans rfl, (blk_cell BK766.out 1).trans rfl, (blk_cell BK766.out 2).trans rfl, (blk_cell BK772.out 0).trans rfl, (blk_cell BK772.out 1).trans rfl, (blk_cell BK772.out 2).trans rfl⟩ (fun hHeld => ?_); refine with_tabW pelorusref03_Mul.tab3 pelorusref03_Mul.bits3 (fun HT_ HW_ => ?_)
 generalize w30.drew = w31 at HO764 HO770 BK758 BK759 BK760 BK766 BK772 HB hHeld ⊢
 refine pure_ (i := 0) (N := some 17) (v := ?_) (a' := ?_) #[true, false, false, false, false, false, false, false, false, false, false, false] rfl rfl (any_of HT_.out (by kernel_rfl)) (fun _ _ _ h => h) (Or.inl ⟨by rfl, ?_⟩) ?_ ?_
 rotate_left
 ·intro w'
  go_simp
  with_reducible rfl
 rotate_left
 ·simp only [Act.put, List.setIfInBounds_toArray, List.set_cons_zero, List.set_cons_succ, i64_w, i32_w]
  rfl
 refine pure_ (i := 2) (N := some 19) (v := ?_) (a' := ?_) #[true, false, true, false, false, false, false, false, false, false, false, false] rfl rfl (any_of HT_.out (by kernel_rfl)) (fun _ _ _ h => h) (Or.inl ⟨by rfl, ?_⟩) ?_ ?_
 rotate_left
 ·intro w'
  go_simp
  with_reducible rfl
 rotate_left
 ·simp only [Act.put, List.setIfInBounds_toArray, List.set_cons_zero, List.set_cons_succ, i64_w, i32_w]
  rfl
 refine pure_ (i := 5) (N := some 22) (v := ?_) (a' := ?_) #[true, false, true, false, false, true, false, false, false, false, false, false] rfl rfl (any_of HT_.out (by kernel_rfl)) (fun _ _ _ h => h) (Or.inl ⟨by rfl, ?_⟩) ?_ ?_
 rotate_left
 ·intro w'
  go_simp
  with_reducible rfl
 rotate_left
 ·simp only [Act.put, List.setIfInBounds_toArray, List.set_cons_zero, List.set_cons_succ, i64_w, i32_w]
  rfl
 refine pure_ (i := 7) (N := some 24) (v := ?_) (a' := ?_) #[true, false, true, false, false, true, false, true, false, false, false, false] rfl rfl (any_of HT_.out (by kernel_rfl)) (fun _ _ _ h => h) (Or.inl ⟨by rfl, ?_⟩) ?_ ?_
 rotate_left
 ·intro w'
  go_simp
  with_reducible rfl
 rotate_left
 ·simp only [Act.put, List.setIfInBounds_toArray, List.set_cons_zero, List.set_cons_succ, i64_w, i32_w]
  rfl
 refine take_ (i := 1) (N := some 18) (v := ?_) (a' := ?_) #[true, true, true, false, false, true, false, true, false, false, false, false] rfl rfl (take_ofW HT_.out HW_.out (by kernel_rfl)) (fun _ _ _ h => h) (Or.inl ⟨by rfl, ?_⟩) hHeld ?_ ?_
 rotate_left
 ·rintro w' ⟨s0, s1, s2, s3, s4, s5⟩
  go_simp
  with_reducible rfl
 rotate_left
 ·simp only [Act.put, List.setIfInBounds_toArray, List.set_cons_zero, List.set_cons_succ, i64_w, i32_w]
  rfl
 refine take_ (i := 3) (N := some 20) (v := ?_) (a' := ?_) #[true, true, true, true, false, true, false, true, false, false, false, false] rfl rfl (take_ofW HT_.out HW_.out (by kernel_rfl)) (fun _ _ _ h => h) (Or.inl ⟨by rfl, ?_⟩) hHeld ?_ ?_
 rotate_left
 ·rintro w' ⟨s0, s1, s2, s3, s4, s5⟩
  go_simp
  with_reducible rfl
 rotate_left
 ·simp only [Act.put, List.setIfInBounds_toArray, List.set_cons_zero, List.set_cons_succ, i64_w, i32_w]
  rfl
 refine take_ (i := 6) (N := some 23) (v := ?_) (a' := ?_) #[true, true, true, true, false, true, true, true, false, false, false, false] rfl rfl (take_ofW HT_.out HW_.out (by kernel_rfl)) (fun _ _ _ h => h) (Or.inl ⟨by rfl, ?_⟩) hHeld ?_ ?_
 rotate_left
 ·rintro w' ⟨s0, s1, s2, s3, s4, s5⟩
  go_simp
  with_reducible rfl
 rotate_left
 ·simp only [Act.put, List.setIfInBounds_toArray, List.set_cons_zero, List.set_cons_succ, i64_w, i32_w]
  rfl
 refine take_ (i := 8) (N := some 25) (v := ?_) (a' := ?_) #[true, true, true, true, false, true, true, true, true, false, false, false] rfl rfl (take_ofW HT_.out HW_.out (by kernel_rfl)) (fun _ _ _ h => h) (Or.inl ⟨by rfl, ?_⟩) hHeld ?_ ?_
 rotate_left
 ·rintro w' ⟨s0, s1, s2, s3, s4, s5⟩
  go_simp
  with_reducible rfl
 rotate_left
 ·simp only [Act.put, List.setIfInBounds_toArray, List.set_cons_zero, List.set_cons_succ, i64_w, i32_w]
  rfl
 refine pure_ (i := 9) (N := some 26) (v := ?_) (a' := ?_) #[true, true, true, true, false, true, true, true, true, true, false, false] rfl rfl (any_of HT_.out (by kernel_rfl)) (fun _ _ _ h => h) (Or.inl ⟨by rfl, ?_⟩) ?_ ?_
 rotate_left
 ·intro w'
  go_simp
  with_reducible rfl
 rotate_left
 ·simp only [Act.put, List.setIfInBounds_toArray, List.set_cons_zero, List.set_cons_succ, i64_w, i32_w]
  rfl
 refine one_ (i := 4) (N := some 21) #[true, true, true, true, true, true, true, true, true, true, false, false] rfl rfl (one_of HT_.out (by kernel_rfl)) (by decide) (fun K hK => ?_)
 refine gs_ Try.func65 #[.agg #[.bool t761, .slice Ao19 t762.length co19], .agg #[.bool t767, .slice Ao29 t768.length co29]] ?_
 with_reducible refine (pelorusref02_Two.calls k t761 _ _ t762 t767 _ _ t768 t773 t774 _ ?side1 ?side2 ?side3 ?side4 A5.out).mono ?_
 (case side1 => repeat (first | exact (Kd.R_reads' HO764.out).2.2 | (with_reducible refine Kd.C_alloc ?_ _) | (with_reducible refine Kd.C_drewN ?_ _) | (with_reducible refine Kd.C_drew ?_)))
 (case side2 => exact (Kd.R_reads' HO764.out).2.1)
 (case side3 => repeat (first | exact (Kd.R_reads' HO770.out).2.2 | (with_reducible refine Kd.C_alloc ?_ _) | (with_reducible refine Kd.C_drewN ?_ _) | (with_reducible refine Kd.C_drew ?_)))
 (case side4 => exact (Kd.R_reads' HO770.out).2.1)
 rintro e w32 ⟨v775, rfl, ho0, hb⟩
 refine ⟨_, rfl, ?_⟩
 have n0_ := Aside0.mk (Kd.R_elder' (by (with_reducible repeat (first | apply Kd.R_alloc | apply Kd.R_drewN | apply Kd.R_drew)); exact HO764.out) (Kd.R_base ho0) hb)
 have n1_ := Aside0.mk (Kd.R_elder' (by (with_reducible repeat (first | apply Kd.R_alloc | apply Kd.R_drewN | apply Kd.R_drew)); exact HO770.out) (Kd.R_base ho0) hb)
 have n2_ := Aside0.mk (Kd.R_lower (Kd.R_new' (Kd.R_new' ho0 (Kd.R_lt (by (with_reducible repeat (first | apply Kd.R_alloc | apply Kd.R_drewN | apply Kd.R_drew)); exact HO764.out))) (Kd.R_lt (by (with_reducible repeat (first | apply Kd.R_alloc | apply Kd.R_drewN | apply Kd.R_drew)); exact HO770.out))) (below_size (bw_ HB.out)))
 have n3_ := kq_ BK758 hb
 have n4_ := kq_ BK759 hb
 have n5_ := kq_ BK760 hb
 have n6_ := kq_ BK766 hb
 have n7_ := kq_ BK772 hb
 have n8_ := bq_ HB hb
 clear HO764
 clear HO770
 clear BK758
 clear BK759
 clear BK760
 clear BK766
 clear BK772
 clear HB
 have HO764 := n0_
 have HO770 := n1_
 have HO776 := n2_
 have BK758 := n3_
 have BK759 := n4_
 have BK760 := n5_
 have BK766 := n6_
 have BK772 := n7_
 have HB := n8_
 clear n0_ n1_ n2_ n3_ n4_ n5_ n6_ n7_ n8_
 (try clear hb)
 (try clear hb2)
 (try clear hk)
 (try clear hi)
 (try clear ho0)
 obtain ⟨Ao33, co33, eo33⟩ := Kd.R_slice HO776.out
 (first | subst eo33 | (injection eo33 with f1_ f2_ f3_; have f4_ := f1_.symm; have f5_ := f3_.symm; clear f1_ f2_ f3_; subst f4_; subst f5_))
 refine hK.out _ _ ⟨(blk_cell BK766.out 0).trans rfl, (blk_cell BK766.out 1).trans rfl, (blk_cell BK766.out 2).trans rfl, (blk_cell BK772.out 0).trans rfl, (blk_cell BK772.out 1).trans rfl, (blk_cell BK772.out 2).trans rfl⟩ (fun hHeld => ?_)
 clear hK K
 refine norm_ (a' := ?_) ?_ ?_
 rotate_left
 ·show Act.put _ (some 21) _ = _
  simp only [Act.put, List.setIfInBounds_toArray, List.set_cons_zero, List.set_cons_succ, i64_w, i32_w]
  rfl
 refine one_ (i := 10) (N := some 27) #[true, true, true, true, true, true, true, true, true, true, true, false] rfl rfl (one_of HT_.out (by kernel_rfl)) (by decide) (fun K hK => ?_)
 refine gs_ Try.func54 #[.agg #[.bool t773, .slice Ao33 t774.length co33], .int .i64 (wrap64 (t765 + t771))] ?_
 with_reducible refine (pelorusref03_Make.calls k t773 _ _ t774 (wrap64 (t765 + t771)) t777 t778 t781 _ ?side1 ?side2 A6.out).mono ?_
 (case side1 => repeat (first | exact (Kd.R_reads' HO776.out).2.2 | (with_reducible refine Kd.C_alloc ?_ _) | (with_reducible refine Kd.C_drewN ?_ _) | (with_reducible refine Kd.C_drew ?_)))
 (case side2 => exact (Kd.R_reads' HO776.out).2.1)
 rintro e w34 ⟨v779, rfl, ho0, hb⟩
 refine ⟨_, rfl, ?_⟩
 have n0_ := Aside0.mk (Kd.R_elder' (by (with_reducible repeat (first | apply Kd.R_alloc | apply Kd.R_drewN | apply Kd.R_drew)); exact HO764.out) (Kd.R_base ho0) hb)
 have n1_ := Aside0.mk (Kd.R_elder' (by (with_reducible repeat (first | apply Kd.R_alloc | apply Kd.R_drewN | apply Kd.R_drew)); exact HO770.out) (Kd.R_base ho0) hb)
 have n2_ := Aside0.mk (Kd.R_elder' (by (with_reducible repeat (first | apply Kd.R_alloc | apply Kd.R_drewN | apply Kd.R_drew)); exact HO776.out) (Kd.R_base ho0) hb)
 have n3_ := Aside0.mk (Kd.R_lower (Kd.R_new' (Kd.R_new' (Kd.R_new' ho0 (Kd.R_lt (by (with_reducible repeat (first | apply Kd.R_alloc | apply Kd.R_drewN | apply Kd.R_drew)); exact HO764.out))) (Kd.R_lt (by (with_reducible repeat (first | apply Kd.R_alloc | apply Kd.R_drewN | apply Kd.R_drew)); exact HO770.out))) (Kd.R_lt (by (with_reducible repeat (first | apply Kd.R_alloc | apply Kd.R_drewN | apply Kd.R_drew)); exact HO776.out))) (below_size (bw_ HB.out)))
 have n4_ := kq_ BK758 hb
 have n5_ := kq_ BK759 hb
 have n6_ := kq_ BK760 hb
 have n7_ := kq_ BK766 hb
 have n8_ := kq_ BK772 hb
 have n9_ := bq_ HB hb
 clear HO764
 clear HO770
 clear HO776
 clear BK758
 clear BK759
 clear BK760
 clear BK766
 clear BK772
 clear HB
 have HO764 := n0_
 have HO770 := n1_
 have HO776 := n2_
 have HO780 := n3_
 have BK758 := n4_
 have BK759 := n5_
 have BK760 := n6_
 have BK766 := n7_
 have BK772 := n8_
 have HB := n9_
 clear n0_ n1_ n2_ n3_ n4_ n5_ n6_ n7_ n8_ n9_
 (try clear hb)
 (try clear hb2)
 (try clear hk)
 (try clear hi)
 (try clear ho0)
 obtain ⟨Ao36, co36, eo36⟩ := Kd.R_slice HO780.out
 (first | subst eo36 | (injection eo36 with f1_ f2_ f3_; have f4_ := f1_.symm; have f5_ := f3_.symm; clear f1_ f2_ f3_; subst f4_; subst f5_))
 refine hK.out _ _ ⟨(blk_cell BK766.out 0).trans rfl, (blk_cell BK766.out 1).trans rfl, (blk_cell BK766.out 2).trans rfl, (blk_cell BK772.out 0).trans rfl, (blk_cell BK772.out 1).trans rfl, (blk_cell BK772.out 2).trans rfl⟩ (fun hHeld => ?_)
 clear hK K
 refine norm_ (a' := ?_) ?_ ?_
 rotate_left
 ·show Act.put _ (some 27) _ = _
  simp only [Act.put, List.setIfInBounds_toArray, List.set_cons_zero, List.set_cons_succ, i64_w, i32_w]
  rfl
 refine one_ (i := 11) (N := none) #[true, true, true, true, true, true, true, true, true, true, true, true] rfl rfl (one_of HT_.out (by kernel_rfl)) (by decide) (fun K hK => ?_)
 have hs35 : w34.cell? ⟨gb760, 0, none⟩ = some (.bool false) := (blk_cell BK760.out 0).trans rfl
 have hfs35 := fz_ BK760 0
 have hns35_0 := NB758_760.out
 have hns35_1 := NB759_760.out
 have hns35_3 := NB766_760.out
 have hns35_4 := NB772_760.out
 have hms35_0 := NB760_758.out
 have hms35_1 := NB760_759.out
 have hms35_3 := NB760_766.out
 have hms35_4 := NB760_772.out
 have hs37 : w34.cell? ⟨gb760, 1, none⟩ = some (.slice none 0 0) := (blk_cell BK760.out 1).trans rfl
 have hfs37 := fz_ BK760 1
 have hns37_0 := NB758_760.out
 have hns37_1 := NB759_760.out
 have hns37_3 := NB766_760.out
 have hns37_4 := NB772_760.out
 have hms37_0 := NB760_758.out
 have hms37_1 := NB760_759.out
 have hms37_3 := NB760_766.out
 have hms37_4 := NB760_772.out
 have hs38 : w34.cell? ⟨gb760, 2, none⟩ = some (.int .i64 0) := (blk_cell BK760.out 2).trans rfl
 have hfs38 := fz_ BK760 2
 have hns38_0 := NB758_760.out
 have hns38_1 := NB759_760.out
 have hns38_3 := NB766_760.out
 have hns38_4 := NB772_760.out
 have hms38_0 := NB760_758.out
 have hms38_1 := NB760_759.out
 have hms38_3 := NB760_766.out
 have hms38_4 := NB760_772.out
 refine skip_ (w1 := ?_) (by rfl) rfl ?_ ?_
 rotate_left
 ·go_simp
  rfl
 refine hK.out _ _ ⟨((cell_far (p := ⟨gb760, _, none⟩) NB766_760.out _).trans (((cell_far (p := ⟨gb760, _, none⟩) NB766_760.out _).trans (((cell_far (p := ⟨gb760, _, none⟩) NB766_760.out _).trans (hHeld.1)))))), ((cell_far (p := ⟨gb760, _, none⟩) NB766_760.out _).trans (((cell_far (p := ⟨gb760, _, none⟩) NB766_760.out _).trans (((cell_far (p := ⟨gb760, _, none⟩) NB766_760.out _).trans (hHeld.2.1)))))), ((cell_far (p := ⟨gb760, _, none⟩) NB766_760.out _).trans (((cell_far (p := ⟨gb760, _, none⟩) NB766_760.out _).trans (((cell_far (p := ⟨gb760, _, none⟩) NB766_760.out _).trans (hHeld.2.2.1)))))), ((cell_far (p := ⟨gb760, _, none⟩) NB772_760.out _).trans (((cell_far (p := ⟨gb760, _, none⟩) NB772_760.out _).trans (((cell_far (p := ⟨gb760, _, none⟩) NB772_760.out _).trans (hHeld.2.2.2.1)))))), ((cell_far (p := ⟨gb760, _, none⟩) NB772_760.out _).trans (((cell_far (p := ⟨gb760, _, none⟩) NB772_760.out _).trans (((cell_far (p := ⟨gb760, _, none⟩) NB772_760.out _).trans (hHeld.2.2.2.2.1)))))), ((cell_far (p := ⟨gb760, _, none⟩) NB772_760.out _).trans (((cell_far (p := ⟨gb760, _, none⟩) NB772_760.out _).trans (((cell_far (p := ⟨gb760, _, none⟩) NB772_760.out _).trans (hHeld.2.2.2.2.2))))))⟩ (fun hHeld => ?_)
 clear hK K
 refine done_ (done_of HT_.out (by kernel_rfl)) ?_
 try go_wp2
 refine bodyPost_ret (results_cell_row rfl _ _ gb760 50 #[.bool t777, .slice Ao36 t778.length co36, .int .i64 t781] (0, 0) _ rfl (by refine kb_ ?_; refine bp_ #[.bool t777, .slice Ao36 t778.length co36, .int .i64 0] 2 ?_; refine bp_ #[.bool t777, .slice none 0 0, .int .i64 0] 1 ?_; refine bp_ #[.bool false, .slice none 0 0, .int .i64 0] 0 ?_; exact BK760.out) Try.underlying50 rfl (by kernel_rfl)) rfl ?_
 exact ⟨_, by first | rfl | (simp [errW_none, errW_some] <;> rfl) | (simp [*, errW_none, errW_some] <;> rfl), by (with_reducible repeat (first | apply Kd.R_alloc | apply Kd.R_drewN | apply Kd.R_drew)); exact Kd.R_mono (Kd.R_far (p := ⟨gb760, 2, none⟩) (Kd.R_far (p := ⟨gb760, 1, none⟩) (Kd.R_far (p := ⟨gb760, 0, none⟩) (Kd.R_types HO780.out BK760.out (by decide)) (fun _ hk => hk.2) (.bool t777)) (fun _ hk => hk.2) (.slice Ao36 t778.length co36)) (fun _ hk => hk.2) (.int .i64 t781)) (fun _ hk => trivial), bw_ HB.out⟩

end Go.Proofs.Ythlhogcnfaiphaa.PA
