-- Laid by this work's own program; Lean checks it.
import Derived.Test.YthlhogcnfaiphaaPAx0
import Derived.Test.YthlhogcnfaiphaaPAx2
import Derived.Test.YthlhogcnfaiphaaPAx8
import Derived.Test.YthlhogcnfaiphaaPAx9
namespace Go.Proofs.Ythlhogcnfaiphaa.PA
open Go.RowKit Go.Proofs.YthlhogcnfaiphaaW.PrintWords Go.Proofs.YthlhogcnfaiphaaW.PrintLast Go.Proofs.YthlhogcnfaiphaaW.PrintMore
attribute [local go_sem] max2_int min2_int max_two min_two max_three min_three max_four min_four   -- for this text's walks alone
set_option linter.unusedVariables false
set_option linter.unusedSimpArgs false

attribute [local go_sem ↓ high] isSome_set_
/-! ### peloruslaw06_Few: function 14 -/
set_option maxHeartbeats 8000000 in
set_option maxRecDepth 100000 in
theorem peloruslaw06_Few.calls (a0_0 : Int) (a0_1 : Bool) (a0_2 : Int) (a0_3 : Int) (r : Bool) (w : World) (h : peloruslaw06_Few.f a0_0 a0_1 a0_2 a0_3 = some r) :
  Calls Try.prog 14 #[.agg #[.int .i64 a0_0, .bool a0_1, .int .u64 a0_2, .int .i64 a0_3]] w fun e w' => e = .returned (.bool r) ∧ Below w.heap.size w w' := by
 have hu24 := Try.underlying24
 have HB := Aside0.mk (Below.refl w.heap.size w)
 have H : (if a0_0 = 1 then (if a0_3 ≥ (-1500) then (some (decide (a0_3 ≤ 1500))) else (some false)) else (some true)) = some r := h
 clear h
 by_cases c2 : a0_0 = 1
 ·rw [if_pos c2] at H
  have c2b0 : (a0_0 == 1) = true := beq_iff_eq.mpr c2
  have c2b1 : (a0_0 != 1) = false := bne_eq_false_iff_eq.mpr c2
  clear c2
  by_cases c3 : a0_3 ≥ (-1500)
  ·rw [if_pos c3] at H
   have c3b0 : decide ((-1500) ≤ a0_3) = true := decide_eq_true c3
   clear c3
   obtain rfl := Option.some.inj H
   go_enter Try.func14, Try.ntmps14
   go_wp2_with (first | ((with_reducible refine gate_dst (N := 1) rfl ?_); refine bx_ 1 #[.int .i64 a0_0, .bool a0_1, .int .u64 a0_2, .int .i64 a0_3] 24 ?_; intro gb374 hg w4 hbox hb; have n0_ := bq_ HB hb; have n1_ := Aside0.mk (hbox); have n2_ := ge_ hg HB; have n3_ := ge_ hg HB; clear HB; have HB := n0_; have BK374 := n1_; have GW374 := n2_; have GE374 := n3_; clear n0_ n1_ n2_ n3_; clear hb hbox hg; obtain ⟨hcz5_0, hcz5_1, hcz5_2, hcz5_3, hfz5_0, hfz5_1, hfz5_2, hfz5_3⟩ := c4_ BK374))
   go_ret
   exact ⟨rf_, bw_ HB.out⟩
  ·rw [if_neg c3] at H
   have c3b0 : decide ((-1500) ≤ a0_3) = false := decide_eq_false c3
   clear c3
   obtain rfl := Option.some.inj H
   go_enter Try.func14, Try.ntmps14
   go_wp2_with (first | ((with_reducible refine gate_dst (N := 1) rfl ?_); refine bx_ 1 #[.int .i64 a0_0, .bool a0_1, .int .u64 a0_2, .int .i64 a0_3] 24 ?_; intro gb374 hg w6 hbox hb; have n0_ := bq_ HB hb; have n1_ := Aside0.mk (hbox); have n2_ := ge_ hg HB; have n3_ := ge_ hg HB; clear HB; have HB := n0_; have BK374 := n1_; have GW374 := n2_; have GE374 := n3_; clear n0_ n1_ n2_ n3_; clear hb hbox hg; obtain ⟨hcz7_0, hcz7_1, hcz7_2, hcz7_3, hfz7_0, hfz7_1, hfz7_2, hfz7_3⟩ := c4_ BK374))
   go_ret
   exact ⟨rf_, bw_ HB.out⟩
 ·rw [if_neg c2] at H
  have c2b0 : (a0_0 == 1) = false := beq_eq_false_iff_ne.mpr c2
  have c2b1 : (a0_0 != 1) = true := bne_iff_ne.mpr c2
  obtain rfl := Option.some.inj H
  go_enter Try.func14, Try.ntmps14
  go_wp2_with (first | ((with_reducible refine gate_dst (N := 1) rfl ?_); refine bx_ 1 #[.int .i64 a0_0, .bool a0_1, .int .u64 a0_2, .int .i64 a0_3] 24 ?_; intro gb374 hg w8 hbox hb; have n0_ := bq_ HB hb; have n1_ := Aside0.mk (hbox); have n2_ := ge_ hg HB; have n3_ := ge_ hg HB; clear HB; have HB := n0_; have BK374 := n1_; have GW374 := n2_; have GE374 := n3_; clear n0_ n1_ n2_ n3_; clear hb hbox hg; obtain ⟨hcz9_0, hcz9_1, hcz9_2, hcz9_3, hfz9_0, hfz9_1, hfz9_2, hfz9_3⟩ := c4_ BK374))
  go_ret
  exact ⟨rf_, bw_ HB.out⟩

/-! ### pelorusref02_Add: function 63 -/
theorem pelorusref02_Add.tab2 : rtab .any (opsOf Try.f63 2) = pelorusref02_Add.T2 := by kernel_rfl
theorem pelorusref02_Add.bits2 : waitsOk pelorusref02_Add.T2.2 pelorusref02_Add.B2 = true := by kernel_rfl
set_option maxHeartbeats 8000000 in
set_option maxRecDepth 100000 in
theorem pelorusref02_Add.calls (k : Nat) (a0_0 : Bool) (A0_1 : Option Addr) (c0_1 : Nat) (l0_1 : List Int) (a1_0 : Bool) (A1_1 : Option Addr) (c1_1 : Nat) (l1_1 : List Int) (r1 : Bool) (r2 : List Int) (w : World) (hr0_1 : Kd.C (Kd.int .u32) w A0_1 l0_1.length l0_1) (hc0_1 : l0_1.length ≤ c0_1) (hr1_1 : Kd.C (Kd.int .u32) w A1_1 l1_1.length l1_1) (hc1_1 : l1_1.length ≤ c1_1) (h : pelorusref02_Add.f k a0_0 l0_1 a1_0 l1_1 = some (r1, r2)) :
  Calls Try.prog 63 #[.agg #[.bool a0_0, .slice A0_1 l0_1.length c0_1], .agg #[.bool a1_0, .slice A1_1 l1_1.length c1_1]] w fun e w' => ∃ v1_ : Value, e = .returned (.agg #[.bool r1, v1_]) ∧ Kd.R (Kd.int .u32) 68 w' w.heap.size (fun _ => True) v1_ r2 ∧ Below w.heap.size w w' := by
 have hu48 := Try.underlying48
 have HR0_1 := Aside0.mk hr0_1
 have HC0_1 := Aside0.mk hc0_1
 clear hr0_1 hc0_1
 have HR1_1 := Aside0.mk hr1_1
 have HC1_1 := Aside0.mk hc1_1
 clear hr1_1 hc1_1
 have HB := Aside0.mk (Below.refl w.heap.size w)
 have H : (if (a0_0 == a1_0) = true then ((pelorusref01_Add.f k l0_1 l1_1).bind fun t597 => ((pelorusref02_Make.f k a0_0 t597).bind fun bt600 => (some (bt600.1, bt600.2)))) else ((pelorusref01_Sub.f k l0_1 l1_1).bind fun bt604 => (if bt604.2 = true then ((pelorusref02_Make.f k a0_0 bt604.1).bind fun bt608 => (some (bt608.1, bt608.2))) else ((pelorusref01_Sub.f k l1_1 l0_1).bind fun bt612 => ((pelorusref02_Make.f k a1_0 bt612.1).bind fun bt616 => (some (bt616.1, bt616.2))))))) = some (r1, r2) := h
 clear h
 by_cases c3 : (a0_0 == a1_0) = true
 ·rw [if_pos c3] at H
  have c3b0 : (a0_0 == a1_0) = true := c3
  (try (have c3b1 : decide (a0_0 = a1_0) = true := by simpa using c3))
  (try (have c3b2 : (a0_0 == a1_0) = true := by simpa using c3))
  clear c3
  replace H := Option.bind_eq_some_iff.mp H
  obtain ⟨t597, A40, H⟩ := H
  (try dsimp only at H)
  have A4 := Aside0.mk A40
  clear A40
  replace H := Option.bind_eq_some_iff.mp H
  obtain ⟨⟨t600, t601⟩, A50, H⟩ := H
  (try dsimp only at H)
  have A5 := Aside0.mk A50
  clear A50
  simp only [Option.some.injEq, Prod.mk.injEq] at H
  obtain ⟨rfl, rfl⟩ := H
  go_enter Try.func63, Try.ntmps63
  try go_wp2_with (first | ((with_reducible refine gate_dst (N := 2) rfl ?_); refine bx_ 2 #[.bool a0_0, .slice A0_1 l0_1.length c0_1] 48 ?_; intro gb594 hg w6 hbox hb; have n0_ := bq_ HB hb; have n1_ := Aside0.mk (hbox); have n2_ := ge_ hg HB; have n3_ := ge_ hg HB; clear HB; have HB := n0_; have BK594 := n1_; have GW594 := n2_; have GE594 := n3_; clear n0_ n1_ n2_ n3_; clear hb hbox hg) | ((with_reducible refine gate_dst (N := 3) rfl ?_); refine bx_ 3 #[.bool a1_0, .slice A1_1 l1_1.length c1_1] 48 ?_; intro gb595 hg w7 hbox hb; have n0_ := kq_ BK594 hb; have n1_ := bq_ HB hb; have n2_ := Aside0.mk (hbox); have n3_ := ge_ hg HB; have n4_ := ge_ hg HB; have n5_ := nb_ hg BK594; have n6_ := nc_ hg BK594; clear BK594; clear HB; have BK594 := n0_; have HB := n1_; have BK595 := n2_; have GW595 := n3_; have GE595 := n4_; have NB594_595 := n5_; have NB595_594 := n6_; clear n0_ n1_ n2_ n3_ n4_ n5_ n6_; clear hb hbox hg) | ((with_reducible refine gate_dst (N := 4) rfl ?_); refine bx_ 4 #[.bool false, .slice none 0 0] 48 ?_; intro gb596 hg w8 hbox hb; have n0_ := kq_ BK594 hb; have n1_ := kq_ BK595 hb; have n2_ := bq_ HB hb; have n3_ := Aside0.mk (hbox); have n4_ := ge_ hg HB; have n5_ := ge_ hg HB; have n6_ := nb_ hg BK594; have n7_ := nc_ hg BK594; have n8_ := nb_ hg BK595; have n9_ := nc_ hg BK595; clear BK594; clear BK595; clear HB; have BK594 := n0_; have BK595 := n1_; have HB := n2_; have BK596 := n3_; have GW596 := n4_; have GE596 := n5_; have NB594_596 := n6_; have NB596_594 := n7_; have NB595_596 := n8_; have NB596_595 := n9_; clear n0_ n1_ n2_ n3_ n4_ n5_ n6_ n7_ n8_ n9_; clear hb hbox hg; have hnb9 := NB594_595.out; have hnc9 := NB595_594.out; have hnb10 := NB594_596.out; have hnc10 := NB596_594.out; obtain ⟨hcz11_0, hcz11_1, hfz11_0, hfz11_1⟩ := c2_ BK594; have hnb12 := NB595_596.out; have hnc12 := NB596_595.out; obtain ⟨hcz13_0, hcz13_1, hfz13_0, hfz13_1⟩ := c2_ BK595))
  have n0_ := Aside0.mk (blk_drew BK594.out)
  have n1_ := Aside0.mk (blk_drew BK595.out)
  have n2_ := Aside0.mk (blk_drew BK596.out)
  have n3_ := Aside0.mk (below_drew1 HB.out)
  clear BK594
  clear BK595
  clear BK596
  clear HB
  have BK594 := n0_
  have BK595 := n1_
  have BK596 := n2_
  have HB := n3_
  clear n0_ n1_ n2_ n3_
  refine start_ (n := 9) (S := fun w' => w'.cell? ⟨gb594, 0, none⟩ = some (.bool a0_0) ∧ w'.cell? ⟨gb594, 1, none⟩ = some (.slice A0_1 l0_1.length c0_1) ∧ w'.cell? ⟨gb595, 0, none⟩ = some (.bool a1_0) ∧ w'.cell? ⟨gb595, 1, none⟩ = some (.slice A1_1 l1_1.length c1_1)) (ds := []) #[false, false, false, false, false, false, false, false, false] (by kernel_rfl) rfl rfl ⟨(blk_cell BK594.out 0).trans rfl, (blk_cell BK594.out 1).trans rfl, (blk_cell BK595.out 0).trans rfl, (blk_cell BK595.out 1).trans rfl⟩ (fun hHeld => ?_); refine with_tabW pelorusref02_Add.tab2 pelorusref02_Add.bits2 (fun HT_ HW_ => ?_)
  generalize w8.drew = w14 at BK594 BK595 BK596 HB hHeld ⊢
  refine pure_ (i := 0) (N := some 12) (v := ?_) (a' := ?_) #[true, false, false, false, false, false, false, false, false] rfl rfl (any_of HT_.out (by kernel_rfl)) (fun _ _ _ h => h) (Or.inl ⟨by rfl, ?_⟩) ?_ ?_
  rotate_left
  ·intro w'
   go_simp
   with_reducible rfl
  rotate_left
  ·exact pt_
  refine pure_ (i := 2) (N := some 14) (v := ?_) (a' := ?_) #[true, false, true, false, false, false, false, false, false] rfl rfl (any_of HT_.out (by kernel_rfl)) (fun _ _ _ h => h) (Or.inl ⟨by rfl, ?_⟩) ?_ ?_
  rotate_left
  ·intro w'
   go_simp
   with_reducible rfl
  rotate_left
  ·exact pt_
  refine pure_ (i := 4) (N := some 16) (v := ?_) (a' := ?_) #[true, false, true, false, true, false, false, false, false] rfl rfl (any_of HT_.out (by kernel_rfl)) (fun _ _ _ h => h) (Or.inl ⟨by rfl, ?_⟩) ?_ ?_
  rotate_left
  ·intro w'
   go_simp
   with_reducible rfl
  rotate_left
  ·exact pt_
  refine take_ (i := 1) (N := some 13) (v := ?_) (a' := ?_) #[true, true, true, false, true, false, false, false, false] rfl rfl (take_ofW HT_.out HW_.out (by kernel_rfl)) (fun _ _ _ h => h) (Or.inl ⟨by rfl, ?_⟩) hHeld ?_ ?_
  rotate_left
  ·rintro w' ⟨s0, s1, s2, s3⟩
   go_simp
   with_reducible rfl
  rotate_left
  ·exact pt_
  refine take_ (i := 3) (N := some 15) (v := ?_) (a' := ?_) #[true, true, true, true, true, false, false, false, false] rfl rfl (take_ofW HT_.out HW_.out (by kernel_rfl)) (fun _ _ _ h => h) (Or.inl ⟨by rfl, ?_⟩) hHeld ?_ ?_
  rotate_left
  ·rintro w' ⟨s0, s1, s2, s3⟩
   go_simp
   with_reducible rfl
  rotate_left
  ·exact pt_
  refine take_ (i := 5) (N := some 17) (v := ?_) (a' := ?_) #[true, true, true, true, true, true, false, false, false] rfl rfl (take_ofW HT_.out HW_.out (by kernel_rfl)) (fun _ _ _ h => h) (Or.inl ⟨by rfl, ?_⟩) hHeld ?_ ?_
  rotate_left
  ·rintro w' ⟨s0, s1, s2, s3⟩
   go_simp
   with_reducible rfl
  rotate_left
  ·exact pt_
  refine one_ (i := 6) (N := some 18) #[true, true, true, true, true, true, true, false, false] rfl rfl (one_of HT_.out (by kernel_rfl)) (by decide) (fun K hK => ?_)
  refine gs_ Try.func62 #[.slice A0_1 l0_1.length c0_1, .slice A1_1 l1_1.length c1_1] ?_
  with_reducible refine (pelorusref01_Add.calls k _ _ l0_1 _ _ l1_1 t597 _ ?side1 ?side2 ?side3 ?side4 A4.out).mono ?_
  (case side1 => repeat (first | exact (Kd.C_below HR0_1.out HB.out) | (with_reducible refine Kd.C_alloc ?_ _) | (with_reducible refine Kd.C_drewN ?_ _) | (with_reducible refine Kd.C_drew ?_)))
  (case side2 => exact HC0_1.out)
  (case side3 => repeat (first | exact (Kd.C_below HR1_1.out HB.out) | (with_reducible refine Kd.C_alloc ?_ _) | (with_reducible refine Kd.C_drewN ?_ _) | (with_reducible refine Kd.C_drew ?_)))
  (case side4 => exact HC1_1.out)
  rintro e w15 ⟨v598, rfl, ho0, hb⟩
  refine ⟨_, rfl, ?_⟩
  have n0_ := Aside0.mk (Kd.R_lower ho0 (below_size (bw_ HB.out)))
  have n1_ := kq_ BK594 hb
  have n2_ := kq_ BK595 hb
  have n3_ := kq_ BK596 hb
  have n4_ := bq_ HB hb
  clear BK594
  clear BK595
  clear BK596
  clear HB
  have HO599 := n0_
  have BK594 := n1_
  have BK595 := n2_
  have BK596 := n3_
  have HB := n4_
  clear n0_ n1_ n2_ n3_ n4_
  (try clear hb)
  (try clear hb2)
  (try clear hk)
  (try clear hi)
  (try clear ho0)
  obtain ⟨Ao16, co16, eo16⟩ := Kd.R_slice HO599.out
  (first | subst eo16 | (injection eo16 with f1_ f2_ f3_; have f4_ := f1_.symm; have f5_ := f3_.symm; clear f1_ f2_ f3_; subst f4_; subst f5_))
  refine hK.out _ _ ⟨(blk_cell BK594.out 0).trans rfl, (blk_cell BK594.out 1).trans rfl, (blk_cell BK595.out 0).trans rfl, (blk_cell BK595.out 1).trans rfl⟩ (fun hHeld => ?_)
  clear hK K
  refine norm_ (a' := ?_) ?_ ?_
  rotate_left
  ·show Act.put _ (some 18) _ = _
   exact pt_
  refine one_ (i := 7) (N := some 19) #[true, true, true, true, true, true, true, true, false] rfl rfl (one_of HT_.out (by kernel_rfl)) (by decide) (fun K hK => ?_)
  refine gs_ Try.func55 #[.bool a0_0, .slice Ao16 t597.length co16] ?_
  with_reducible refine (pelorusref02_Make.calls k a0_0 _ _ t597 t600 t601 _ ?side1 ?side2 A5.out).mono ?_
  (case side1 => repeat (first | exact (Kd.R_reads' HO599.out).2.2 | (with_reducible refine Kd.C_alloc ?_ _) | (with_reducible refine Kd.C_drewN ?_ _) | (with_reducible refine Kd.C_drew ?_)))
  (case side2 => exact (Kd.R_reads' HO599.out).2.1)
  rintro e w17 ⟨v602, rfl, ho0, hb⟩
  refine ⟨_, rfl, ?_⟩
  have n0_ := Aside0.mk (Kd.R_elder' (by (with_reducible repeat (first | apply Kd.R_alloc | apply Kd.R_drewN | apply Kd.R_drew)); exact HO599.out) (Kd.R_base ho0) hb)
  have n1_ := Aside0.mk (Kd.R_lower (Kd.R_new' ho0 (Kd.R_lt (by (with_reducible repeat (first | apply Kd.R_alloc | apply Kd.R_drewN | apply Kd.R_drew)); exact HO599.out))) (below_size (bw_ HB.out)))
  have n2_ := kq_ BK594 hb
  have n3_ := kq_ BK595 hb
  have n4_ := kq_ BK596 hb
  have n5_ := bq_ HB hb
  clear HO599
  clear BK594
  clear BK595
  clear BK596
  clear HB
  have HO599 := n0_
  have HO603 := n1_
  have BK594 := n2_
  have BK595 := n3_
  have BK596 := n4_
  have HB := n5_
  clear n0_ n1_ n2_ n3_ n4_ n5_
  (try clear hb)
  (try clear hb2)
  (try clear hk)
  (try clear hi)
  (try clear ho0)
  obtain ⟨Ao19, co19, eo19⟩ := Kd.R_slice HO603.out
  (first | subst eo19 | (injection eo19 with f1_ f2_ f3_; have f4_ := f1_.symm; have f5_ := f3_.symm; clear f1_ f2_ f3_; subst f4_; subst f5_))
  refine hK.out _ _ ⟨(blk_cell BK594.out 0).trans rfl, (blk_cell BK594.out 1).trans rfl, (blk_cell BK595.out 0).trans rfl, (blk_cell BK595.out 1).trans rfl⟩ (fun hHeld => ?_)
  clear hK K
  refine norm_ (a' := ?_) ?_ ?_
  rotate_left
  ·show Act.put _ (some 19) _ = _
   exact pt_
  refine one_ (i := 8) (N := none) #[true, true, true, true, true, true, true, true, true] rfl rfl (one_of HT_.out (by kernel_rfl)) (by decide) (fun K hK => ?_)
  have hs18 : w17.cell? ⟨gb596, 0, none⟩ = some (.bool false) := (blk_cell BK596.out 0).trans rfl
  have hfs18 := fz_ BK596 0
  have hns18_0 := NB594_596.out
  have hns18_1 := NB595_596.out
  have hms18_0 := NB596_594.out
  have hms18_1 := NB596_595.out
  have hs20 : w17.cell? ⟨gb596, 1, none⟩ = some (.slice none 0 0) := (blk_cell BK596.out 1).trans rfl
  have hfs20 := fz_ BK596 1
  have hns20_0 := NB594_596.out
  have hns20_1 := NB595_596.out
  have hms20_0 := NB596_594.out
  have hms20_1 := NB596_595.out
  refine skip_ (w1 := ?_) (by rfl) rfl ?_ ?_
  rotate_left
  ·go_simp
   rfl
  refine hK.out _ _ ⟨((cell_far (p := ⟨gb596, _, none⟩) NB594_596.out _).trans (((cell_far (p := ⟨gb596, _, none⟩) NB594_596.out _).trans (hHeld.1)))), ((cell_far (p := ⟨gb596, _, none⟩) NB594_596.out _).trans (((cell_far (p := ⟨gb596, _, none⟩) NB594_596.out _).trans (hHeld.2.1)))), ((cell_far (p := ⟨gb596, _, none⟩) NB595_596.out _).trans (((cell_far (p := ⟨gb596, _, none⟩) NB595_596.out _).trans (hHeld.2.2.1)))), ((cell_far (p := ⟨gb596, _, none⟩) NB595_596.out _).trans (((cell_far (p := ⟨gb596, _, none⟩) NB595_596.out _).trans (hHeld.2.2.2))))⟩ (fun hHeld => ?_)
  clear hK K
  refine done_ (done_of HT_.out (by kernel_rfl)) ?_
  try go_wp2
  refine bodyPost_ret (results_cell_row rfl _ _ gb596 48 #[.bool t600, .slice Ao19 t601.length co19] (0, 0) _ rfl (by refine kb_ ?_; refine bp_ #[.bool t600, .slice none 0 0] 1 ?_; refine bp_ #[.bool false, .slice none 0 0] 0 ?_; exact BK596.out) Try.underlying48 rfl (by kernel_rfl)) rfl ?_
  exact ⟨_, rf_, by (with_reducible repeat (first | apply Kd.R_alloc | apply Kd.R_drewN | apply Kd.R_drew)); exact Kd.R_mono (Kd.R_far (p := ⟨gb596, 1, none⟩) (Kd.R_far (p := ⟨gb596, 0, none⟩) (Kd.R_types HO603.out BK596.out (by decide)) (fun _ hk => hk.2) (.bool t600)) (fun _ hk => hk.2) (.slice Ao19 t601.length co19)) (fun _ hk => trivial), bw_ HB.out⟩
 ·rw [if_neg c3] at H
  have c3b0 : (a0_0 == a1_0) = false := by simpa using c3
  (try (have c3b1 : decide (a0_0 = a1_0) = false := by simpa using c3))
  (try (have c3b2 : (a0_0 == a1_0) = false := by simpa using c3))
  (try (have c3b3 : ¬ (a0_0 = a1_0) := by simpa using c3))
  clear c3
  replace H := Option.bind_eq_some_iff.mp H
  obtain ⟨⟨t604, t605⟩, A210, H⟩ := H
  (try dsimp only at H)
  have A21 := Aside0.mk A210
  clear A210
  by_cases c22 : t605 = true
  ·subst c22
   have H1 : ((pelorusref02_Make.f k a0_0 t604).bind fun bt608 => (some (bt608.1, bt608.2))) = some (r1, r2) := by rw [if_pos rfl] at H; exact H
   clear H
   have H := H1
   clear H1
   replace H := Option.bind_eq_some_iff.mp H
   obtain ⟨⟨t608, t609⟩, A230, H⟩ := H
   (try dsimp only at H)
   have A23 := Aside0.mk A230
   clear A230
   simp only [Option.some.injEq, Prod.mk.injEq] at H
   obtain ⟨rfl, rfl⟩ := H
   go_enter Try.func63, Try.ntmps63
   go_wp2_with (first | ((with_reducible refine gate_dst (N := 2) rfl ?_); refine bx_ 2 #[.bool a0_0, .slice A0_1 l0_1.length c0_1] 48 ?_; intro gb594 hg w24 hbox hb; have n0_ := bq_ HB hb; have n1_ := Aside0.mk (hbox); have n2_ := ge_ hg HB; have n3_ := ge_ hg HB; clear HB; have HB := n0_; have BK594 := n1_; have GW594 := n2_; have GE594 := n3_; clear n0_ n1_ n2_ n3_; clear hb hbox hg) | ((with_reducible refine gate_dst (N := 3) rfl ?_); refine bx_ 3 #[.bool a1_0, .slice A1_1 l1_1.length c1_1] 48 ?_; intro gb595 hg w25 hbox hb; have n0_ := kq_ BK594 hb; have n1_ := bq_ HB hb; have n2_ := Aside0.mk (hbox); have n3_ := ge_ hg HB; have n4_ := ge_ hg HB; have n5_ := nb_ hg BK594; have n6_ := nc_ hg BK594; clear BK594; clear HB; have BK594 := n0_; have HB := n1_; have BK595 := n2_; have GW595 := n3_; have GE595 := n4_; have NB594_595 := n5_; have NB595_594 := n6_; clear n0_ n1_ n2_ n3_ n4_ n5_ n6_; clear hb hbox hg) | ((with_reducible refine gate_dst (N := 4) rfl ?_); refine bx_ 4 #[.bool false, .slice none 0 0] 48 ?_; intro gb596 hg w26 hbox hb; have n0_ := kq_ BK594 hb; have n1_ := kq_ BK595 hb; have n2_ := bq_ HB hb; have n3_ := Aside0.mk (hbox); have n4_ := ge_ hg HB; have n5_ := ge_ hg HB; have n6_ := nb_ hg BK594; have n7_ := nc_ hg BK594; have n8_ := nb_ hg BK595; have n9_ := nc_ hg BK595; clear BK594; clear BK595; clear HB; have BK594 := n0_; have BK595 := n1_; have HB := n2_; have BK596 := n3_; have GW596 := n4_; have GE596 := n5_; have NB594_596 := n6_; have NB596_594 := n7_; have NB595_596 := n8_; have NB596_595 := n9_; clear n0_ n1_ n2_ n3_ n4_ n5_ n6_ n7_ n8_ n9_; clear hb hbox hg; have hnb27 := NB594_595.out; have hnc27 := NB595_594.out; have hnb28 := NB594_596.out; have hnc28 := NB596_594.out; obtain ⟨hcz29_0, hcz29_1, hfz29_0, hfz29_1⟩ := c2_ BK594; have hnb30 := NB595_596.out; have hnc30 := NB596_595.out; obtain ⟨hcz31_0, hcz31_1, hfz31_0, hfz31_1⟩ := c2_ BK595) | ((with_reducible refine gate_callee (f := 73) rfl ?_); refine gl_ (some 25) Try.func73 #[.slice A0_1 l0_1.length c0_1, .slice A1_1 l1_1.length c1_1] ?_; (with_reducible refine (pelorusref01_Sub.calls k _ _ l0_1 _ _ l1_1 t604 true _ ?side1 ?side2 ?side3 ?side4 A21.out).mono ?_); (case side1 => repeat (first | exact (Kd.C_below HR0_1.out HB.out) | (with_reducible refine Kd.C_alloc ?_ _) | (with_reducible refine Kd.C_drewN ?_ _) | (with_reducible refine Kd.C_drew ?_))); (case side2 => exact HC0_1.out); (case side3 => repeat (first | exact (Kd.C_below HR1_1.out HB.out) | (with_reducible refine Kd.C_alloc ?_ _) | (with_reducible refine Kd.C_drewN ?_ _) | (with_reducible refine Kd.C_drew ?_))); (case side4 => exact HC1_1.out); rintro e w32 ⟨v606, rfl, ho0, hb⟩; refine ⟨_, rfl, ?_⟩; have n0_ := Aside0.mk (Kd.R_lower ho0 (below_size (bw_ HB.out))); have n1_ := kq_ BK594 hb; have n2_ := kq_ BK595 hb; have n3_ := kq_ BK596 hb; have n4_ := bq_ HB hb; clear BK594; clear BK595; clear BK596; clear HB; have HO607 := n0_; have BK594 := n1_; have BK595 := n2_; have BK596 := n3_; have HB := n4_; clear n0_ n1_ n2_ n3_ n4_; (try clear hb); (try clear hb2); (try clear hk); (try clear hi); (try clear ho0); obtain ⟨hcz33_0, hcz33_1, hfz33_0, hfz33_1⟩ := c2_ BK594; obtain ⟨Ao34, co34, eo34⟩ := Kd.R_slice HO607.out; subst eo34) | ((with_reducible refine gate_callee (f := 55) rfl ?_); refine gl_ (some 32) Try.func55 #[.bool a0_0, .slice Ao34 t604.length co34] ?_; (with_reducible refine (pelorusref02_Make.calls k a0_0 _ _ t604 t608 t609 _ ?side1 ?side2 A23.out).mono ?_); (case side1 => repeat (first | exact (Kd.R_reads' HO607.out).2.2 | (with_reducible refine Kd.C_alloc ?_ _) | (with_reducible refine Kd.C_drewN ?_ _) | (with_reducible refine Kd.C_drew ?_))); (case side2 => exact (Kd.R_reads' HO607.out).2.1); rintro e w35 ⟨v610, rfl, ho0, hb⟩; refine ⟨_, rfl, ?_⟩; have n0_ := Aside0.mk (Kd.R_elder' (by (with_reducible repeat (first | apply Kd.R_alloc | apply Kd.R_drewN | apply Kd.R_drew)); exact HO607.out) (Kd.R_base ho0) hb); have n1_ := Aside0.mk (Kd.R_lower (Kd.R_new' ho0 (Kd.R_lt (by (with_reducible repeat (first | apply Kd.R_alloc | apply Kd.R_drewN | apply Kd.R_drew)); exact HO607.out))) (below_size (bw_ HB.out))); have n2_ := kq_ BK594 hb; have n3_ := kq_ BK595 hb; have n4_ := kq_ BK596 hb; have n5_ := bq_ HB hb; clear HO607; clear BK594; clear BK595; clear BK596; clear HB; have HO607 := n0_; have HO611 := n1_; have BK594 := n2_; have BK595 := n3_; have BK596 := n4_; have HB := n5_; clear n0_ n1_ n2_ n3_ n4_ n5_; (try clear hb); (try clear hb2); (try clear hk); (try clear hi); (try clear ho0); obtain ⟨hcz36_0, hcz36_1, hfz36_0, hfz36_1⟩ := c2_ BK596; obtain ⟨Ao37, co37, eo37⟩ := Kd.R_slice HO611.out; subst eo37))
   refine bodyPost_ret (results_cell_row rfl _ _ gb596 48 #[.bool t608, .slice Ao37 t609.length co37] (0, 0) _ rfl (by refine kb_ ?_; refine bp_ #[.bool t608, .slice none 0 0] 1 ?_; refine bp_ #[.bool false, .slice none 0 0] 0 ?_; exact BK596.out) Try.underlying48 rfl (by kernel_rfl)) rfl ?_
   exact ⟨_, rf_, by (with_reducible repeat (first | apply Kd.R_alloc | apply Kd.R_drewN | apply Kd.R_drew)); exact Kd.R_mono (Kd.R_far (p := ⟨gb596, 1, none⟩) (Kd.R_far (p := ⟨gb596, 0, none⟩) (Kd.R_types HO611.out BK596.out (by decide)) (fun _ hk => hk.2) (.bool t608)) (fun _ hk => hk.2) (.slice Ao37 t609.length co37)) (fun _ hk => trivial), bw_ HB.out⟩
  ·replace c22 := Bool.eq_false_iff.mpr c22
   subst c22
   have H1 : ((pelorusref01_Sub.f k l1_1 l0_1).bind fun bt612 => ((pelorusref02_Make.f k a1_0 bt612.1).bind fun bt616 => (some (bt616.1, bt616.2)))) = some (r1, r2) := by rw [if_neg (show ¬ (false = true) by decide)] at H; exact H
   clear H
   have H := H1
   clear H1
   replace H := Option.bind_eq_some_iff.mp H
   obtain ⟨⟨t612, t613⟩, A380, H⟩ := H
   (try dsimp only at H)
   have A38 := Aside0.mk A380
   clear A380
   replace H := Option.bind_eq_some_iff.mp H
   obtain ⟨⟨t616, t617⟩, A390, H⟩ := H
   (try dsimp only at H)
   have A39 := Aside0.mk A390
   clear A390
   simp only [Option.some.injEq, Prod.mk.injEq] at H
   obtain ⟨rfl, rfl⟩ := H
   go_enter Try.func63, Try.ntmps63
   go_wp2_with (first | ((with_reducible refine gate_dst (N := 2) rfl ?_); refine bx_ 2 #[.bool a0_0, .slice A0_1 l0_1.length c0_1] 48 ?_; intro gb594 hg w40 hbox hb; have n0_ := bq_ HB hb; have n1_ := Aside0.mk (hbox); have n2_ := ge_ hg HB; have n3_ := ge_ hg HB; clear HB; have HB := n0_; have BK594 := n1_; have GW594 := n2_; have GE594 := n3_; clear n0_ n1_ n2_ n3_; clear hb hbox hg) | ((with_reducible refine gate_dst (N := 3) rfl ?_); refine bx_ 3 #[.bool a1_0, .slice A1_1 l1_1.length c1_1] 48 ?_; intro gb595 hg w41 hbox hb; have n0_ := kq_ BK594 hb; have n1_ := bq_ HB hb; have n2_ := Aside0.mk (hbox); have n3_ := ge_ hg HB; have n4_ := ge_ hg HB; have n5_ := nb_ hg BK594; have n6_ := nc_ hg BK594; clear BK594; clear HB; have BK594 := n0_; have HB := n1_; have BK595 := n2_; have GW595 := n3_; have GE595 := n4_; have NB594_595 := n5_; have NB595_594 := n6_; clear n0_ n1_ n2_ n3_ n4_ n5_ n6_; clear hb hbox hg) | ((with_reducible refine gate_dst (N := 4) rfl ?_); refine bx_ 4 #[.bool false, .slice none 0 0] 48 ?_; intro gb596 hg w42 hbox hb; have n0_ := kq_ BK594 hb; have n1_ := kq_ BK595 hb; have n2_ := bq_ HB hb; have n3_ := Aside0.mk (hbox); have n4_ := ge_ hg HB; have n5_ := ge_ hg HB; have n6_ := nb_ hg BK594; have n7_ := nc_ hg BK594; have n8_ := nb_ hg BK595; have n9_ := nc_ hg BK595; clear BK594; clear BK595; clear HB; have BK594 := n0_; have BK595 := n1_; have HB := n2_; have BK596 := n3_; have GW596 := n4_; have GE596 := n5_; have NB594_596 := n6_; have NB596_594 := n7_; have NB595_596 := n8_; have NB596_595 := n9_; clear n0_ n1_ n2_ n3_ n4_ n5_ n6_ n7_ n8_ n9_; clear hb hbox hg; have hnb43 := NB594_595.out; have hnc43 := NB595_594.out; have hnb44 := NB594_596.out; have hnc44 := NB596_594.out; obtain ⟨hcz45_0, hcz45_1, hfz45_0, hfz45_1⟩ := c2_ BK594; have hnb46 := NB595_596.out; have hnc46 := NB596_595.out; obtain ⟨hcz47_0, hcz47_1, hfz47_0, hfz47_1⟩ := c2_ BK595) | ((with_reducible refine gate_callee (f := 73) rfl ?_); refine gl_ (some 25) Try.func73 #[.slice A0_1 l0_1.length c0_1, .slice A1_1 l1_1.length c1_1] ?_; (with_reducible refine (pelorusref01_Sub.calls k _ _ l0_1 _ _ l1_1 t604 false _ ?side1 ?side2 ?side3 ?side4 A21.out).mono ?_); (case side1 => repeat (first | exact (Kd.C_below HR0_1.out HB.out) | (with_reducible refine Kd.C_alloc ?_ _) | (with_reducible refine Kd.C_drewN ?_ _) | (with_reducible refine Kd.C_drew ?_))); (case side2 => exact HC0_1.out); (case side3 => repeat (first | exact (Kd.C_below HR1_1.out HB.out) | (with_reducible refine Kd.C_alloc ?_ _) | (with_reducible refine Kd.C_drewN ?_ _) | (with_reducible refine Kd.C_drew ?_))); (case side4 => exact HC1_1.out); rintro e w48 ⟨v606, rfl, ho0, hb⟩; refine ⟨_, rfl, ?_⟩; have n0_ := Aside0.mk (Kd.R_lower ho0 (below_size (bw_ HB.out))); have n1_ := kq_ BK594 hb; have n2_ := kq_ BK595 hb; have n3_ := kq_ BK596 hb; have n4_ := bq_ HB hb; clear BK594; clear BK595; clear BK596; clear HB; have HO607 := n0_; have BK594 := n1_; have BK595 := n2_; have BK596 := n3_; have HB := n4_; clear n0_ n1_ n2_ n3_ n4_; (try clear hb); (try clear hb2); (try clear hk); (try clear hi); (try clear ho0); obtain ⟨hcz49_0, hcz49_1, hfz49_0, hfz49_1⟩ := c2_ BK595; obtain ⟨hcz50_0, hcz50_1, hfz50_0, hfz50_1⟩ := c2_ BK594) | ((with_reducible refine gate_callee (f := 73) rfl ?_); refine gl_ (some 38) Try.func73 #[.slice A1_1 l1_1.length c1_1, .slice A0_1 l0_1.length c0_1] ?_; (with_reducible refine (pelorusref01_Sub.calls k _ _ l1_1 _ _ l0_1 t612 t613 _ ?side1 ?side2 ?side3 ?side4 A38.out).mono ?_); (case side1 => repeat (first | exact (Kd.C_below HR1_1.out HB.out) | (with_reducible refine Kd.C_alloc ?_ _) | (with_reducible refine Kd.C_drewN ?_ _) | (with_reducible refine Kd.C_drew ?_))); (case side2 => exact HC1_1.out); (case side3 => repeat (first | exact (Kd.C_below HR0_1.out HB.out) | (with_reducible refine Kd.C_alloc ?_ _) | (with_reducible refine Kd.C_drewN ?_ _) | (with_reducible refine Kd.C_drew ?_))); (case side4 => exact HC0_1.out); rintro e w51 ⟨v614, rfl, ho0, hb⟩; refine ⟨_, rfl, ?_⟩; have n0_ := Aside0.mk (Kd.R_elder' (by (with_reducible repeat (first | apply Kd.R_alloc | apply Kd.R_drewN | apply Kd.R_drew)); exact HO607.out) (Kd.R_base ho0) hb); have n1_ := Aside0.mk (Kd.R_lower (Kd.R_new' ho0 (Kd.R_lt (by (with_reducible repeat (first | apply Kd.R_alloc | apply Kd.R_drewN | apply Kd.R_drew)); exact HO607.out))) (below_size (bw_ HB.out))); have n2_ := kq_ BK594 hb; have n3_ := kq_ BK595 hb; have n4_ := kq_ BK596 hb; have n5_ := bq_ HB hb; clear HO607; clear BK594; clear BK595; clear BK596; clear HB; have HO607 := n0_; have HO615 := n1_; have BK594 := n2_; have BK595 := n3_; have BK596 := n4_; have HB := n5_; clear n0_ n1_ n2_ n3_ n4_ n5_; (try clear hb); (try clear hb2); (try clear hk); (try clear hi); (try clear ho0); obtain ⟨hcz52_0, hcz52_1, hfz52_0, hfz52_1⟩ := c2_ BK595; obtain ⟨Ao53, co53, eo53⟩ := Kd.R_slice HO615.out; subst eo53) | ((with_reducible refine gate_callee (f := 55) rfl ?_); refine gl_ (some 44) Try.func55 #[.bool a1_0, .slice Ao53 t612.length co53] ?_; (with_reducible refine (pelorusref02_Make.calls k a1_0 _ _ t612 t616 t617 _ ?side1 ?side2 A39.out).mono ?_); (case side1 => repeat (first | exact (Kd.R_reads' HO615.out).2.2 | (with_reducible refine Kd.C_alloc ?_ _) | (with_reducible refine Kd.C_drewN ?_ _) | (with_reducible refine Kd.C_drew ?_))); (case side2 => exact (Kd.R_reads' HO615.out).2.1); rintro e w54 ⟨v618, rfl, ho0, hb⟩; refine ⟨_, rfl, ?_⟩; have n0_ := Aside0.mk (Kd.R_elder' (by (with_reducible repeat (first | apply Kd.R_alloc | apply Kd.R_drewN | apply Kd.R_drew)); exact HO607.out) (Kd.R_base ho0) hb); have n1_ := Aside0.mk (Kd.R_elder' (by (with_reducible repeat (first | apply Kd.R_alloc | apply Kd.R_drewN | apply Kd.R_drew)); exact HO615.out) (Kd.R_base ho0) hb); have n2_ := Aside0.mk (Kd.R_lower (Kd.R_new' (Kd.R_new' ho0 (Kd.R_lt (by (with_reducible repeat (first | apply Kd.R_alloc | apply Kd.R_drewN | apply Kd.R_drew)); exact HO607.out))) (Kd.R_lt (by (with_reducible repeat (first | apply Kd.R_alloc | apply Kd.R_drewN | apply Kd.R_drew)); exact HO615.out))) (below_size (bw_ HB.out))); have n3_ := kq_ BK594 hb; have n4_ := kq_ BK595 hb; have n5_ := kq_ BK596 hb; have n6_ := bq_ HB hb; clear HO607; clear HO615; clear BK594; clear BK595; clear BK596; clear HB; have HO607 := n0_; have HO615 := n1_; have HO619 := n2_; have BK594 := n3_; have BK595 := n4_; have BK596 := n5_; have HB := n6_; clear n0_ n1_ n2_ n3_ n4_ n5_ n6_; (try clear hb); (try clear hb2); (try clear hk); (try clear hi); (try clear ho0); obtain ⟨hcz55_0, hcz55_1, hfz55_0, hfz55_1⟩ := c2_ BK596; obtain ⟨Ao56, co56, eo56⟩ := Kd.R_slice HO619.out; subst eo56))
   refine bodyPost_ret (results_cell_row rfl _ _ gb596 48 #[.bool t616, .slice Ao56 t617.length co56] (0, 0) _ rfl (by refine kb_ ?_; refine bp_ #[.bool t616, .slice none 0 0] 1 ?_; refine bp_ #[.bool false, .slice none 0 0] 0 ?_; exact BK596.out) Try.underlying48 rfl (by kernel_rfl)) rfl ?_
   exact ⟨_, rf_, by (with_reducible repeat (first | apply Kd.R_alloc | apply Kd.R_drewN | apply Kd.R_drew)); exact Kd.R_mono (Kd.R_far (p := ⟨gb596, 1, none⟩) (Kd.R_far (p := ⟨gb596, 0, none⟩) (Kd.R_types HO619.out BK596.out (by decide)) (fun _ hk => hk.2) (.bool t616)) (fun _ hk => hk.2) (.slice Ao56 t617.length co56)) (fun _ hk => trivial), bw_ HB.out⟩

end Go.Proofs.Ythlhogcnfaiphaa.PA
