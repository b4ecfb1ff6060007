-- Laid by this work's own program; Lean checks it.
import Derived.Test.YtaookeneeemfbaaDoorPAx0
import Derived.Test.YtaookeneeemfbaaDoorPAx1
import Derived.Test.YtaookeneeemfbaaDoorPAx2
import Derived.Test.YtaookeneeemfbaaDoorPAx4
namespace Go.Proofs.YtaookeneeemfbaaDoor.PA
open Go.RowKit Go.Proofs.YtaookeneeemfbaaDoorW.PrintWords Go.Proofs.YtaookeneeemfbaaDoorW.PrintLast Go.Proofs.YtaookeneeemfbaaDoorW.PrintMore
attribute [local go_sem] max2_int min2_int max_two min_two max_three min_three max_four min_four   -- for this text's walks alone
set_option linter.unusedVariables false
set_option linter.unusedSimpArgs false

attribute [local go_sem ↓ high] isSome_set_
/-! ### whole_Add: function 24 -/
theorem whole_Add.tab2 : rtab .any (opsOf Tryd.f24 2) = whole_Add.T2 := by kernel_rfl
theorem whole_Add.bits2 : waitsOk whole_Add.T2.2 whole_Add.B2 = true := by kernel_rfl
set_option maxHeartbeats 8000000 in
set_option maxRecDepth 100000 in
theorem whole_Add.calls (k : Nat) (a0_0 : Bool) (A0_1 : Option Addr) (c0_1 : Nat) (l0_1 : List Int) (a1_0 : Bool) (A1_1 : Option Addr) (c1_1 : Nat) (l1_1 : List Int) (r1 : Bool) (r2 : List Int) (w : World) (hr0_1 : Kd.C (Kd.int .u32) w A0_1 l0_1.length l0_1) (hc0_1 : l0_1.length ≤ c0_1) (hr1_1 : Kd.C (Kd.int .u32) w A1_1 l1_1.length l1_1) (hc1_1 : l1_1.length ≤ c1_1) (h : whole_Add.f k a0_0 l0_1 a1_0 l1_1 = some (r1, r2)) :
  Calls Tryd.prog 24 #[.agg #[.bool a0_0, .slice A0_1 l0_1.length c0_1], .agg #[.bool a1_0, .slice A1_1 l1_1.length c1_1]] w fun e w' => ∃ v1_ : Value, e = .returned (.agg #[.bool r1, v1_]) ∧ Kd.R (Kd.int .u32) 51 w' w.heap.size (fun _ => True) v1_ r2 ∧ Below w.heap.size w w' := by
 have hu24 := Tryd.underlying24
 have HR0_1 := Aside0.mk hr0_1
 have HC0_1 := Aside0.mk hc0_1
 clear hr0_1 hc0_1
 have HR1_1 := Aside0.mk hr1_1
 have HC1_1 := Aside0.mk hc1_1
 clear hr1_1 hc1_1
 have HB := Aside0.mk (Below.refl w.heap.size w)
 have H : (if (a0_0 == a1_0) = true then ((nat_Add.f k l0_1 l1_1).bind fun t240 => ((whole_Make.f k a0_0 t240).bind fun bt243 => (some (bt243.1, bt243.2)))) else ((nat_Sub.f k l0_1 l1_1).bind fun bt247 => (if bt247.2 = true then ((whole_Make.f k a0_0 bt247.1).bind fun bt251 => (some (bt251.1, bt251.2))) else ((nat_Sub.f k l1_1 l0_1).bind fun bt255 => ((whole_Make.f k a1_0 bt255.1).bind fun bt259 => (some (bt259.1, bt259.2))))))) = some (r1, r2) := h
 clear h
 by_cases c3 : (a0_0 == a1_0) = true
 ·rw [if_pos c3] at H
  have c3b0 : (a0_0 == a1_0) = true := c3
  (try (have c3b1 : decide (a0_0 = a1_0) = true := by simpa using c3))
  (try (have c3b2 : (a0_0 == a1_0) = true := by simpa using c3))
  clear c3
  replace H := Option.bind_eq_some_iff.mp H
  obtain ⟨t240, A40, H⟩ := H
  (try dsimp only at H)
  have A4 := Aside0.mk A40
  clear A40
  replace H := Option.bind_eq_some_iff.mp H
  obtain ⟨⟨t243, t244⟩, A50, H⟩ := H
  (try dsimp only at H)
  have A5 := Aside0.mk A50
  clear A50
  simp only [Option.some.injEq, Prod.mk.injEq] at H
  obtain ⟨rfl, rfl⟩ := H
  go_enter Tryd.func24, Tryd.ntmps24
  try go_wp2_with (first | ((with_reducible refine gate_dst (N := 2) rfl ?_); refine bx_ 2 #[.bool a0_0, .slice A0_1 l0_1.length c0_1] 24 ?_; intro gb237 hg w6 hbox hb; have BK237 := Aside0.mk (hbox); have GW237 := ge_ hg HB; have GE237 := ge_ hg HB; replace HB := bq_ HB hb; clear hb hbox hg) | ((with_reducible refine gate_dst (N := 3) rfl ?_); refine bx_ 3 #[.bool a1_0, .slice A1_1 l1_1.length c1_1] 24 ?_; intro gb238 hg w7 hbox hb; have BK238 := Aside0.mk (hbox); have GW238 := ge_ hg HB; have GE238 := ge_ hg HB; have NB237_238 := nb_ hg BK237; have NB238_237 := nc_ hg BK237; replace BK237 := kq_ BK237 hb; replace HB := bq_ HB hb; clear hb hbox hg) | ((with_reducible refine gate_dst (N := 4) rfl ?_); refine bx_ 4 #[.bool false, .slice none 0 0] 24 ?_; intro gb239 hg w8 hbox hb; have BK239 := Aside0.mk (hbox); have GW239 := ge_ hg HB; have GE239 := ge_ hg HB; have NB237_239 := nb_ hg BK237; have NB239_237 := nc_ hg BK237; have NB238_239 := nb_ hg BK238; have NB239_238 := nc_ hg BK238; replace BK237 := kq_ BK237 hb; replace BK238 := kq_ BK238 hb; replace HB := bq_ HB hb; clear hb hbox hg; have hnb9 := NB237_238.out; have hnc9 := NB238_237.out; have hnb10 := NB237_239.out; have hnc10 := NB239_237.out; obtain ⟨hcz11_0, hcz11_1, hfz11_0, hfz11_1⟩ := c2_ BK237; have hnb12 := NB238_239.out; have hnc12 := NB239_238.out; obtain ⟨hcz13_0, hcz13_1, hfz13_0, hfz13_1⟩ := c2_ BK238))
  replace BK237 := Aside0.mk (blk_drew BK237.out)
  replace BK238 := Aside0.mk (blk_drew BK238.out)
  replace BK239 := Aside0.mk (blk_drew BK239.out)
  replace HB := Aside0.mk (below_drew1 HB.out)
  refine start_ (n := 9) (S := fun w' => w'.cell? ⟨gb237, 0, none⟩ = some (.bool a0_0) ∧ w'.cell? ⟨gb237, 1, none⟩ = some (.slice A0_1 l0_1.length c0_1) ∧ w'.cell? ⟨gb238, 0, none⟩ = some (.bool a1_0) ∧ w'.cell? ⟨gb238, 1, none⟩ = some (.slice A1_1 l1_1.length c1_1)) (ds := []) #[false, false, false, false, false, false, false, false, false] (by kernel_rfl) rfl rfl ⟨(blk_cell BK237.out 0).trans rfl, (blk_cell BK237.out 1).trans rfl, (blk_cell BK238.out 0).trans rfl, (blk_cell BK238.out 1).trans rfl⟩ (fun hHeld => ?_); refine with_tabW whole_Add.tab2 whole_Add.bits2 (fun HT_ HW_ => ?_)
  generalize w8.drew = w14 at BK237 BK238 BK239 HB hHeld ⊢
  refine pure_ (i := 0) (N := some 14) (v := ?_) (a' := ?_) #[true, false, false, false, false, false, false, false, false] rfl rfl (any_of HT_.out (by kernel_rfl)) (fun _ _ _ h => h) (Or.inl ⟨by rfl, ?_⟩) ?_ ?_
  rotate_left
  ·intro w'
   go_simp
   with_reducible rfl
  rotate_left
  ·exact pt_
  refine pure_ (i := 2) (N := some 16) (v := ?_) (a' := ?_) #[true, false, true, false, false, false, false, false, false] rfl rfl (any_of HT_.out (by kernel_rfl)) (fun _ _ _ h => h) (Or.inl ⟨by rfl, ?_⟩) ?_ ?_
  rotate_left
  ·intro w'
   go_simp
   with_reducible rfl
  rotate_left
  ·exact pt_
  refine pure_ (i := 4) (N := some 18) (v := ?_) (a' := ?_) #[true, false, true, false, true, false, false, false, false] rfl rfl (any_of HT_.out (by kernel_rfl)) (fun _ _ _ h => h) (Or.inl ⟨by rfl, ?_⟩) ?_ ?_
  rotate_left
  ·intro w'
   go_simp
   with_reducible rfl
  rotate_left
  ·exact pt_
  refine take_ (i := 1) (N := some 15) (v := ?_) (a' := ?_) #[true, true, true, false, true, false, false, false, false] rfl rfl (take_ofW HT_.out HW_.out (by kernel_rfl)) (fun _ _ _ h => h) (Or.inl ⟨by rfl, ?_⟩) hHeld ?_ ?_
  rotate_left
  ·rintro w' ⟨s0, s1, s2, s3⟩
   go_simp
   with_reducible rfl
  rotate_left
  ·exact pt_
  refine take_ (i := 3) (N := some 17) (v := ?_) (a' := ?_) #[true, true, true, true, true, false, false, false, false] rfl rfl (take_ofW HT_.out HW_.out (by kernel_rfl)) (fun _ _ _ h => h) (Or.inl ⟨by rfl, ?_⟩) hHeld ?_ ?_
  rotate_left
  ·rintro w' ⟨s0, s1, s2, s3⟩
   go_simp
   with_reducible rfl
  rotate_left
  ·exact pt_
  refine take_ (i := 5) (N := some 19) (v := ?_) (a' := ?_) #[true, true, true, true, true, true, false, false, false] rfl rfl (take_ofW HT_.out HW_.out (by kernel_rfl)) (fun _ _ _ h => h) (Or.inl ⟨by rfl, ?_⟩) hHeld ?_ ?_
  rotate_left
  ·rintro w' ⟨s0, s1, s2, s3⟩
   go_simp
   with_reducible rfl
  rotate_left
  ·exact pt_
  refine one_ (i := 6) (N := some 20) #[true, true, true, true, true, true, true, false, false] rfl rfl (one_of HT_.out (by kernel_rfl)) (by decide) (fun K hK => ?_)
  refine gs_ Tryd.func53 #[.slice A0_1 l0_1.length c0_1, .slice A1_1 l1_1.length c1_1] ?_
  with_reducible refine (nat_Add.calls k _ _ l0_1 _ _ l1_1 t240 _ ?side1 ?side2 ?side3 ?side4 A4.out).mono ?_
  (case side1 => exact kc_ (Kd.C_below HR0_1.out HB.out))
  (case side2 => exact HC0_1.out)
  (case side3 => exact kc_ (Kd.C_below HR1_1.out HB.out))
  (case side4 => exact HC1_1.out)
  rintro e w15 ⟨v241, rfl, ho0, hb⟩
  refine ⟨_, rfl, ?_⟩
  have HO242 := Aside0.mk (Kd.R_lower ho0 (below_size (bw_ HB.out)))
  replace BK237 := kq_ BK237 hb
  replace BK238 := kq_ BK238 hb
  replace BK239 := kq_ BK239 hb
  replace HB := bq_ HB hb
  (try clear hb)
  (try clear hb2)
  (try clear hk)
  (try clear hi)
  (try clear ho0)
  obtain ⟨Ao16, co16, eo16⟩ := Kd.R_slice HO242.out
  (first | subst eo16 | (injection eo16 with f1_ f2_ f3_; have f4_ := f1_.symm; have f5_ := f3_.symm; clear f1_ f2_ f3_; subst f4_; subst f5_))
  refine hK.out _ _ ⟨(blk_cell BK237.out 0).trans rfl, (blk_cell BK237.out 1).trans rfl, (blk_cell BK238.out 0).trans rfl, (blk_cell BK238.out 1).trans rfl⟩ (fun hHeld => ?_)
  clear hK K
  refine norm_ (a' := ?_) ?_ ?_
  rotate_left
  ·show Act.put _ (some 20) _ = _
   exact pt_
  refine one_ (i := 7) (N := some 21) #[true, true, true, true, true, true, true, true, false] rfl rfl (one_of HT_.out (by kernel_rfl)) (by decide) (fun K hK => ?_)
  refine gs_ Tryd.func41 #[.bool a0_0, .slice Ao16 t240.length co16] ?_
  with_reducible refine (whole_Make.calls k a0_0 _ _ t240 t243 t244 _ ?side1 ?side2 A5.out).mono ?_
  (case side1 => exact kc_ (Kd.R_reads' HO242.out).2.2)
  (case side2 => exact (Kd.R_reads' HO242.out).2.1)
  rintro e w17 ⟨v245, rfl, ho0, hb⟩
  refine ⟨_, rfl, ?_⟩
  have HO246 := Aside0.mk (Kd.R_lower (Kd.R_new' ho0 (Kd.R_lt (kr_ HO242.out))) (below_size (bw_ HB.out)))
  replace HO242 := Aside0.mk (Kd.R_elder' (kr_ HO242.out) (Kd.R_base ho0) hb)
  replace BK237 := kq_ BK237 hb
  replace BK238 := kq_ BK238 hb
  replace BK239 := kq_ BK239 hb
  replace HB := bq_ HB hb
  (try clear hb)
  (try clear hb2)
  (try clear hk)
  (try clear hi)
  (try clear ho0)
  obtain ⟨Ao19, co19, eo19⟩ := Kd.R_slice HO246.out
  (first | subst eo19 | (injection eo19 with f1_ f2_ f3_; have f4_ := f1_.symm; have f5_ := f3_.symm; clear f1_ f2_ f3_; subst f4_; subst f5_))
  refine hK.out _ _ ⟨(blk_cell BK237.out 0).trans rfl, (blk_cell BK237.out 1).trans rfl, (blk_cell BK238.out 0).trans rfl, (blk_cell BK238.out 1).trans rfl⟩ (fun hHeld => ?_)
  clear hK K
  refine norm_ (a' := ?_) ?_ ?_
  rotate_left
  ·show Act.put _ (some 21) _ = _
   exact pt_
  refine one_ (i := 8) (N := none) #[true, true, true, true, true, true, true, true, true] rfl rfl (one_of HT_.out (by kernel_rfl)) (by decide) (fun K hK => ?_)
  have hs18 : w17.cell? ⟨gb239, 0, none⟩ = some (.bool false) := (blk_cell BK239.out 0).trans rfl
  have hfs18 := fz_ BK239 0
  have hns18_0 := NB237_239.out
  have hns18_1 := NB238_239.out
  have hms18_0 := NB239_237.out
  have hms18_1 := NB239_238.out
  have hs20 : w17.cell? ⟨gb239, 1, none⟩ = some (.slice none 0 0) := (blk_cell BK239.out 1).trans rfl
  have hfs20 := fz_ BK239 1
  have hns20_0 := NB237_239.out
  have hns20_1 := NB238_239.out
  have hms20_0 := NB239_237.out
  have hms20_1 := NB239_238.out
  refine skip_ (w1 := ?_) (by rfl) rfl ?_ ?_
  rotate_left
  ·go_simp
   rfl
  refine hK.out _ _ ⟨((cell_far (p := ⟨gb239, _, none⟩) NB237_239.out _).trans (((cell_far (p := ⟨gb239, _, none⟩) NB237_239.out _).trans (hHeld.1)))), ((cell_far (p := ⟨gb239, _, none⟩) NB237_239.out _).trans (((cell_far (p := ⟨gb239, _, none⟩) NB237_239.out _).trans (hHeld.2.1)))), ((cell_far (p := ⟨gb239, _, none⟩) NB238_239.out _).trans (((cell_far (p := ⟨gb239, _, none⟩) NB238_239.out _).trans (hHeld.2.2.1)))), ((cell_far (p := ⟨gb239, _, none⟩) NB238_239.out _).trans (((cell_far (p := ⟨gb239, _, none⟩) NB238_239.out _).trans (hHeld.2.2.2))))⟩ (fun hHeld => ?_)
  clear hK K
  refine done_ (done_of HT_.out (by kernel_rfl)) ?_
  try go_wp2
  refine bodyPost_ret (results_cell_row rfl _ _ gb239 24 #[.bool t243, .slice Ao19 t244.length co19] (0, 0) _ rfl (by refine kb_ ?_; refine bp_ #[.bool t243, .slice none 0 0] 1 ?_; refine bp_ #[.bool false, .slice none 0 0] 0 ?_; exact BK239.out) Tryd.underlying24 rfl (by kernel_rfl)) rfl ?_
  exact ⟨_, rf_, by (with_reducible repeat (first | apply Kd.R_alloc | apply Kd.R_drewN | apply Kd.R_drew)); exact Kd.R_mono (Kd.R_far (p := ⟨gb239, 1, none⟩) (Kd.R_far (p := ⟨gb239, 0, none⟩) (Kd.R_types HO246.out BK239.out (by decide)) (fun _ hk => hk.2) (.bool t243)) (fun _ hk => hk.2) (.slice Ao19 t244.length co19)) (fun _ hk => trivial), bw_ HB.out⟩
 ·rw [if_neg c3] at H
  have c3b0 : (a0_0 == a1_0) = false := by simpa using c3
  (try (have c3b1 : decide (a0_0 = a1_0) = false := by simpa using c3))
  (try (have c3b2 : (a0_0 == a1_0) = false := by simpa using c3))
  (try (have c3b3 : ¬ (a0_0 = a1_0) := by simpa using c3))
  clear c3
  replace H := Option.bind_eq_some_iff.mp H
  obtain ⟨⟨t247, t248⟩, A210, H⟩ := H
  (try dsimp only at H)
  have A21 := Aside0.mk A210
  clear A210
  by_cases c22 : t248 = true
  ·subst c22
   have H1 : ((whole_Make.f k a0_0 t247).bind fun bt251 => (some (bt251.1, bt251.2))) = some (r1, r2) := by rw [if_pos rfl] at H; exact H
   clear H
   have H := H1
   clear H1
   replace H := Option.bind_eq_some_iff.mp H
   obtain ⟨⟨t251, t252⟩, A230, H⟩ := H
   (try dsimp only at H)
   have A23 := Aside0.mk A230
   clear A230
   simp only [Option.some.injEq, Prod.mk.injEq] at H
   obtain ⟨rfl, rfl⟩ := H
   go_enter Tryd.func24, Tryd.ntmps24
   go_wp2_with (first | ((with_reducible refine gate_dst (N := 2) rfl ?_); refine bx_ 2 #[.bool a0_0, .slice A0_1 l0_1.length c0_1] 24 ?_; intro gb237 hg w24 hbox hb; have BK237 := Aside0.mk (hbox); have GW237 := ge_ hg HB; have GE237 := ge_ hg HB; replace HB := bq_ HB hb; clear hb hbox hg) | ((with_reducible refine gate_dst (N := 3) rfl ?_); refine bx_ 3 #[.bool a1_0, .slice A1_1 l1_1.length c1_1] 24 ?_; intro gb238 hg w25 hbox hb; have BK238 := Aside0.mk (hbox); have GW238 := ge_ hg HB; have GE238 := ge_ hg HB; have NB237_238 := nb_ hg BK237; have NB238_237 := nc_ hg BK237; replace BK237 := kq_ BK237 hb; replace HB := bq_ HB hb; clear hb hbox hg) | ((with_reducible refine gate_dst (N := 4) rfl ?_); refine bx_ 4 #[.bool false, .slice none 0 0] 24 ?_; intro gb239 hg w26 hbox hb; have BK239 := Aside0.mk (hbox); have GW239 := ge_ hg HB; have GE239 := ge_ hg HB; have NB237_239 := nb_ hg BK237; have NB239_237 := nc_ hg BK237; have NB238_239 := nb_ hg BK238; have NB239_238 := nc_ hg BK238; replace BK237 := kq_ BK237 hb; replace BK238 := kq_ BK238 hb; replace HB := bq_ HB hb; clear hb hbox hg; have hnb27 := NB237_238.out; have hnc27 := NB238_237.out; have hnb28 := NB237_239.out; have hnc28 := NB239_237.out; obtain ⟨hcz29_0, hcz29_1, hfz29_0, hfz29_1⟩ := c2_ BK237; have hnb30 := NB238_239.out; have hnc30 := NB239_238.out; obtain ⟨hcz31_0, hcz31_1, hfz31_0, hfz31_1⟩ := c2_ BK238) | ((with_reducible refine gate_callee (f := 54) rfl ?_); refine gl_ (some 27) Tryd.func54 #[.slice A0_1 l0_1.length c0_1, .slice A1_1 l1_1.length c1_1] ?_; (with_reducible refine (nat_Sub.calls k _ _ l0_1 _ _ l1_1 t247 true _ ?side1 ?side2 ?side3 ?side4 A21.out).mono ?_); (case side1 => exact kc_ (Kd.C_below HR0_1.out HB.out)); (case side2 => exact HC0_1.out); (case side3 => exact kc_ (Kd.C_below HR1_1.out HB.out)); (case side4 => exact HC1_1.out); rintro e w32 ⟨v249, rfl, ho0, hb⟩; refine ⟨_, rfl, ?_⟩; have HO250 := Aside0.mk (Kd.R_lower ho0 (below_size (bw_ HB.out))); replace BK237 := kq_ BK237 hb; replace BK238 := kq_ BK238 hb; replace BK239 := kq_ BK239 hb; replace HB := bq_ HB hb; (try clear hb); (try clear hb2); (try clear hk); (try clear hi); (try clear ho0); obtain ⟨hcz33_0, hcz33_1, hfz33_0, hfz33_1⟩ := c2_ BK237; obtain ⟨Ao34, co34, eo34⟩ := Kd.R_slice HO250.out; subst eo34) | ((with_reducible refine gate_callee (f := 41) rfl ?_); refine gl_ (some 34) Tryd.func41 #[.bool a0_0, .slice Ao34 t247.length co34] ?_; (with_reducible refine (whole_Make.calls k a0_0 _ _ t247 t251 t252 _ ?side1 ?side2 A23.out).mono ?_); (case side1 => exact kc_ (Kd.R_reads' HO250.out).2.2); (case side2 => exact (Kd.R_reads' HO250.out).2.1); rintro e w35 ⟨v253, rfl, ho0, hb⟩; refine ⟨_, rfl, ?_⟩; have HO254 := Aside0.mk (Kd.R_lower (Kd.R_new' ho0 (Kd.R_lt (kr_ HO250.out))) (below_size (bw_ HB.out))); replace HO250 := Aside0.mk (Kd.R_elder' (kr_ HO250.out) (Kd.R_base ho0) hb); replace BK237 := kq_ BK237 hb; replace BK238 := kq_ BK238 hb; replace BK239 := kq_ BK239 hb; replace HB := bq_ HB hb; (try clear hb); (try clear hb2); (try clear hk); (try clear hi); (try clear ho0); obtain ⟨hcz36_0, hcz36_1, hfz36_0, hfz36_1⟩ := c2_ BK239; obtain ⟨Ao37, co37, eo37⟩ := Kd.R_slice HO254.out; subst eo37))
   refine bodyPost_ret (results_cell_row rfl _ _ gb239 24 #[.bool t251, .slice Ao37 t252.length co37] (0, 0) _ rfl (by refine kb_ ?_; refine bp_ #[.bool t251, .slice none 0 0] 1 ?_; refine bp_ #[.bool false, .slice none 0 0] 0 ?_; exact BK239.out) Tryd.underlying24 rfl (by kernel_rfl)) rfl ?_
   exact ⟨_, rf_, by (with_reducible repeat (first | apply Kd.R_alloc | apply Kd.R_drewN | apply Kd.R_drew)); exact Kd.R_mono (Kd.R_far (p := ⟨gb239, 1, none⟩) (Kd.R_far (p := ⟨gb239, 0, none⟩) (Kd.R_types HO254.out BK239.out (by decide)) (fun _ hk => hk.2) (.bool t251)) (fun _ hk => hk.2) (.slice Ao37 t252.length co37)) (fun _ hk => trivial), bw_ HB.out⟩
  ·replace c22 := Bool.eq_false_iff.mpr c22
   subst c22
   have H1 : ((nat_Sub.f k l1_1 l0_1).bind fun bt255 => ((whole_Make.f k a1_0 bt255.1).bind fun bt259 => (some (bt259.1, bt259.2)))) = some (r1, r2) := by rw [if_neg (show ¬ (false = true) by decide)] at H; exact H
   clear H
   have H := H1
   clear H1
   replace H := Option.bind_eq_some_iff.mp H
   obtain ⟨⟨t255, t256⟩, A380, H⟩ := H
   (try dsimp only at H)
   have A38 := Aside0.mk A380
   clear A380
   replace H := Option.bind_eq_some_iff.mp H
   obtain ⟨⟨t259, t260⟩, A390, H⟩ := H
   (try dsimp only at H)
   have A39 := Aside0.mk A390
   clear A390
   simp only [Option.some.injEq, Prod.mk.injEq] at H
   obtain ⟨rfl, rfl⟩ := H
   go_enter Tryd.func24, Tryd.ntmps24
   go_wp2_with (first | ((with_reducible refine gate_dst (N := 2) rfl ?_); refine bx_ 2 #[.bool a0_0, .slice A0_1 l0_1.length c0_1] 24 ?_; intro gb237 hg w40 hbox hb; have BK237 := Aside0.mk (hbox); have GW237 := ge_ hg HB; have GE237 := ge_ hg HB; replace HB := bq_ HB hb; clear hb hbox hg) | ((with_reducible refine gate_dst (N := 3) rfl ?_); refine bx_ 3 #[.bool a1_0, .slice A1_1 l1_1.length c1_1] 24 ?_; intro gb238 hg w41 hbox hb; have BK238 := Aside0.mk (hbox); have GW238 := ge_ hg HB; have GE238 := ge_ hg HB; have NB237_238 := nb_ hg BK237; have NB238_237 := nc_ hg BK237; replace BK237 := kq_ BK237 hb; replace HB := bq_ HB hb; clear hb hbox hg) | ((with_reducible refine gate_dst (N := 4) rfl ?_); refine bx_ 4 #[.bool false, .slice none 0 0] 24 ?_; intro gb239 hg w42 hbox hb; have BK239 := Aside0.mk (hbox); have GW239 := ge_ hg HB; have GE239 := ge_ hg HB; have NB237_239 := nb_ hg BK237; have NB239_237 := nc_ hg BK237; have NB238_239 := nb_ hg BK238; have NB239_238 := nc_ hg BK238; replace BK237 := kq_ BK237 hb; replace BK238 := kq_ BK238 hb; replace HB := bq_ HB hb; clear hb hbox hg; have hnb43 := NB237_238.out; have hnc43 := NB238_237.out; have hnb44 := NB237_239.out; have hnc44 := NB239_237.out; obtain ⟨hcz45_0, hcz45_1, hfz45_0, hfz45_1⟩ := c2_ BK237; have hnb46 := NB238_239.out; have hnc46 := NB239_238.out; obtain ⟨hcz47_0, hcz47_1, hfz47_0, hfz47_1⟩ := c2_ BK238) | ((with_reducible refine gate_callee (f := 54) rfl ?_); refine gl_ (some 27) Tryd.func54 #[.slice A0_1 l0_1.length c0_1, .slice A1_1 l1_1.length c1_1] ?_; (with_reducible refine (nat_Sub.calls k _ _ l0_1 _ _ l1_1 t247 false _ ?side1 ?side2 ?side3 ?side4 A21.out).mono ?_); (case side1 => exact kc_ (Kd.C_below HR0_1.out HB.out)); (case side2 => exact HC0_1.out); (case side3 => exact kc_ (Kd.C_below HR1_1.out HB.out)); (case side4 => exact HC1_1.out); rintro e w48 ⟨v249, rfl, ho0, hb⟩; refine ⟨_, rfl, ?_⟩; have HO250 := Aside0.mk (Kd.R_lower ho0 (below_size (bw_ HB.out))); replace BK237 := kq_ BK237 hb; replace BK238 := kq_ BK238 hb; replace BK239 := kq_ BK239 hb; replace HB := bq_ HB hb; (try clear hb); (try clear hb2); (try clear hk); (try clear hi); (try clear ho0); obtain ⟨hcz49_0, hcz49_1, hfz49_0, hfz49_1⟩ := c2_ BK238; obtain ⟨hcz50_0, hcz50_1, hfz50_0, hfz50_1⟩ := c2_ BK237) | ((with_reducible refine gate_callee (f := 54) rfl ?_); refine gl_ (some 40) Tryd.func54 #[.slice A1_1 l1_1.length c1_1, .slice A0_1 l0_1.length c0_1] ?_; (with_reducible refine (nat_Sub.calls k _ _ l1_1 _ _ l0_1 t255 t256 _ ?side1 ?side2 ?side3 ?side4 A38.out).mono ?_); (case side1 => exact kc_ (Kd.C_below HR1_1.out HB.out)); (case side2 => exact HC1_1.out); (case side3 => exact kc_ (Kd.C_below HR0_1.out HB.out)); (case side4 => exact HC0_1.out); rintro e w51 ⟨v257, rfl, ho0, hb⟩; refine ⟨_, rfl, ?_⟩; have HO258 := Aside0.mk (Kd.R_lower (Kd.R_new' ho0 (Kd.R_lt (kr_ HO250.out))) (below_size (bw_ HB.out))); replace HO250 := Aside0.mk (Kd.R_elder' (kr_ HO250.out) (Kd.R_base ho0) hb); replace BK237 := kq_ BK237 hb; replace BK238 := kq_ BK238 hb; replace BK239 := kq_ BK239 hb; replace HB := bq_ HB hb; (try clear hb); (try clear hb2); (try clear hk); (try clear hi); (try clear ho0); obtain ⟨hcz52_0, hcz52_1, hfz52_0, hfz52_1⟩ := c2_ BK238; obtain ⟨Ao53, co53, eo53⟩ := Kd.R_slice HO258.out; subst eo53) | ((with_reducible refine gate_callee (f := 41) rfl ?_); refine gl_ (some 46) Tryd.func41 #[.bool a1_0, .slice Ao53 t255.length co53] ?_; (with_reducible refine (whole_Make.calls k a1_0 _ _ t255 t259 t260 _ ?side1 ?side2 A39.out).mono ?_); (case side1 => exact kc_ (Kd.R_reads' HO258.out).2.2); (case side2 => exact (Kd.R_reads' HO258.out).2.1); rintro e w54 ⟨v261, rfl, ho0, hb⟩; refine ⟨_, rfl, ?_⟩; have HO262 := Aside0.mk (Kd.R_lower (Kd.R_new' (Kd.R_new' ho0 (Kd.R_lt (kr_ HO250.out))) (Kd.R_lt (kr_ HO258.out))) (below_size (bw_ HB.out))); replace HO250 := Aside0.mk (Kd.R_elder' (kr_ HO250.out) (Kd.R_base ho0) hb); replace HO258 := Aside0.mk (Kd.R_elder' (kr_ HO258.out) (Kd.R_base ho0) hb); replace BK237 := kq_ BK237 hb; replace BK238 := kq_ BK238 hb; replace BK239 := kq_ BK239 hb; replace HB := bq_ HB hb; (try clear hb); (try clear hb2); (try clear hk); (try clear hi); (try clear ho0); obtain ⟨hcz55_0, hcz55_1, hfz55_0, hfz55_1⟩ := c2_ BK239; obtain ⟨Ao56, co56, eo56⟩ := Kd.R_slice HO262.out; subst eo56))
   refine bodyPost_ret (results_cell_row rfl _ _ gb239 24 #[.bool t259, .slice Ao56 t260.length co56] (0, 0) _ rfl (by refine kb_ ?_; refine bp_ #[.bool t259, .slice none 0 0] 1 ?_; refine bp_ #[.bool false, .slice none 0 0] 0 ?_; exact BK239.out) Tryd.underlying24 rfl (by kernel_rfl)) rfl ?_
   exact ⟨_, rf_, by (with_reducible repeat (first | apply Kd.R_alloc | apply Kd.R_drewN | apply Kd.R_drew)); exact Kd.R_mono (Kd.R_far (p := ⟨gb239, 1, none⟩) (Kd.R_far (p := ⟨gb239, 0, none⟩) (Kd.R_types HO262.out BK239.out (by decide)) (fun _ hk => hk.2) (.bool t259)) (fun _ hk => hk.2) (.slice Ao56 t260.length co56)) (fun _ hk => trivial), bw_ HB.out⟩

/-! ### nat_Shl: function 52 -/
set_option maxHeartbeats 8000000 in
set_option maxRecDepth 100000 in
theorem nat_Shl.calls (k : Nat) (A0 : Option Addr) (c0 : Nat) (l0 : List Int) (a1 : Int) (r : List Int) (w : World) (hr0 : Kd.C (Kd.int .u32) w A0 l0.length l0) (hc0 : l0.length ≤ c0) (h : nat_Shl.f k l0 a1 = some r) :
  Calls Tryd.prog 52 #[.slice A0 l0.length c0, .int .i64 a1] w fun e w' => ∃ v0_ : Value, e = .returned (v0_) ∧ Kd.R (Kd.int .u32) 51 w' w.heap.size (fun _ => True) v0_ r ∧ Below w.heap.size w w' := by
 have HR0 := Aside0.mk hr0
 have HC0 := Aside0.mk hc0
 clear hr0 hc0
 have HB := Aside0.mk (Below.refl w.heap.size w)
 have H : ((nat_cut.f k l0).bind fun t263 => (if a1 < 1 then ((slices_Clone_uint32_uint32.f t263).bind fun t266 => (some t266)) else (if a1 > 16777216 then (some ([] : List Int)) else (if (t263.length : Int) = 0 then (some ([] : List Int)) else (if 0 ≤ (wrap64 ((wrap64 ((t263.length : Int) + (wrap64 (Int.tdiv a1 32)))) + 1)) then (if (wrap64 ((wrap64 ((t263.length : Int) + (wrap64 (Int.tdiv a1 32)))) + 1) : Int).toNat ≤ 70368744177664 then (nat_Shl.l0 k (wrap64 (Int.tdiv a1 32)) (Int.tmod a1 32) (List.replicate (wrap64 ((wrap64 ((t263.length : Int) + (wrap64 (Int.tdiv a1 32)))) + 1) : Int).toNat 0) t263 (t263.length : Int) 0) else (none)) else (none)))))) = some r := h
 clear h
 replace H := Option.bind_eq_some_iff.mp H
 obtain ⟨t263, A30, H⟩ := H
 (try dsimp only at H)
 have A3 := Aside0.mk A30
 clear A30
 by_cases c4 : a1 < 1
 ·rw [if_pos c4] at H
  have c4b0 : decide (a1 < 1) = true := decide_eq_true c4
  clear c4
  replace H := Option.bind_eq_some_iff.mp H
  obtain ⟨t266, A50, H⟩ := H
  (try dsimp only at H)
  have A5 := Aside0.mk A50
  clear A50
  obtain rfl := Option.some.inj H
  go_enter Tryd.func52, Tryd.ntmps52
  go_wp2_with (first | ((with_reducible refine gate_callee (f := 67) rfl ?_); refine gl_ (some 12) Tryd.func67 #[.slice A0 l0.length c0] ?_; (with_reducible refine (nat_cut.calls k (fun k_ => k_ < w.heap.size) _ _ l0 t263 _ ?side1 A3.out).mono ?_); (case side1 => exact Kd.V_mk HC0.out (Kd.F_below (Kd.C_F (Kd.heap_int .u32) HR0.out) (bw_ HB.out))); rintro e w6 ⟨v264, rfl, ho0, hb⟩; refine ⟨_, rfl, ?_⟩; have HO265 := Aside0.mk (Kd.V_lower (Kd.V_mono (ok' := fun k_ => True) ho0 (fun k_ hk_ => trivial)) (below_size (bw_ HB.out))); replace HB := bq_ HB hb; (try clear hb); (try clear hb2); (try clear hk); (try clear hi); (try clear ho0); obtain ⟨Ao7, co7, eo7⟩ := Kd.V_slice HO265.out; subst eo7) | ((with_reducible refine gate_callee (f := 68) rfl ?_); refine gl_ (some 17) Tryd.func68 #[.slice Ao7 t263.length co7] ?_; (with_reducible refine (slices_Clone_uint32_uint32.calls _ _ t263 t266 _ ?side1 ?side2 A5.out).mono ?_); (case side1 => exact kc_ (Kd.V_reads' HO265.out).2.2); (case side2 => exact (Kd.V_reads' HO265.out).2.1); rintro e w8 ⟨v267, rfl, ho0, hb⟩; refine ⟨_, rfl, ?_⟩; have n0_ := Aside0.mk (Kd.V_elder' (by (with_reducible repeat (first | apply Kd.V_alloc | apply Kd.V_drewN | apply Kd.V_drew)); exact HO265.out) (Kd.R_base ho0) hb); have n1_ := Aside0.mk (Kd.R_lower ho0 (below_size (bw_ HB.out))); have n2_ := bq_ HB hb; clear HO265; clear HB; have HO265 := n0_; have HO268 := n1_; have HB := n2_; clear n0_ n1_ n2_; (try clear hb); (try clear hb2); (try clear hk); (try clear hi); (try clear ho0)))
  go_ret
  exact ⟨_, rf_, by (with_reducible repeat (first | apply Kd.R_alloc | apply Kd.R_drewN | apply Kd.R_drew)); exact HO268.out, bw_ HB.out⟩
 ·rw [if_neg c4] at H
  have c4b0 : decide (a1 < 1) = false := decide_eq_false c4
  clear c4
  by_cases c9 : a1 > 16777216
  ·rw [if_pos c9] at H
   have c9b0 : decide (16777216 < a1) = true := decide_eq_true c9
   clear c9
   obtain rfl := Option.some.inj H
   go_enter Tryd.func52, Tryd.ntmps52
   go_wp2_with (first | ((with_reducible refine gate_callee (f := 67) rfl ?_); refine gl_ (some 12) Tryd.func67 #[.slice A0 l0.length c0] ?_; (with_reducible refine (nat_cut.calls k (fun k_ => k_ < w.heap.size) _ _ l0 t263 _ ?side1 A3.out).mono ?_); (case side1 => exact Kd.V_mk HC0.out (Kd.F_below (Kd.C_F (Kd.heap_int .u32) HR0.out) (bw_ HB.out))); rintro e w10 ⟨v264, rfl, ho0, hb⟩; refine ⟨_, rfl, ?_⟩; have HO265 := Aside0.mk (Kd.V_lower (Kd.V_mono (ok' := fun k_ => True) ho0 (fun k_ hk_ => trivial)) (below_size (bw_ HB.out))); replace HB := bq_ HB hb; (try clear hb); (try clear hb2); (try clear hk); (try clear hi); (try clear ho0)))
   go_ret
   exact ⟨_, rf_, by first | exact Kd.R_nil _ _ _ _ _ | exact Kd.N_nil _ _ _ _ _ | exact Kd.V_nil _ _ _ _ _ | exact Kd.Q_nil _ _ _ _ _ | exact Kd.S_nil _ _ _ _ _, bw_ HB.out⟩
  ·rw [if_neg c9] at H
   have c9b0 : decide (16777216 < a1) = false := decide_eq_false c9
   clear c9
   by_cases c11 : (t263.length : Int) = 0
   ·rw [if_pos c11] at H
    have c11b0 : ((t263.length : Int) == 0) = true := beq_iff_eq.mpr c11
    have c11b1 : ((t263.length : Int) != 0) = false := bne_eq_false_iff_eq.mpr c11
    clear c11
    obtain rfl := Option.some.inj H
    go_enter Tryd.func52, Tryd.ntmps52
    go_wp2_with (first | ((with_reducible refine gate_callee (f := 67) rfl ?_); refine gl_ (some 12) Tryd.func67 #[.slice A0 l0.length c0] ?_; (with_reducible refine (nat_cut.calls k (fun k_ => k_ < w.heap.size) _ _ l0 t263 _ ?side1 A3.out).mono ?_); (case side1 => exact Kd.V_mk HC0.out (Kd.F_below (Kd.C_F (Kd.heap_int .u32) HR0.out) (bw_ HB.out))); rintro e w12 ⟨v264, rfl, ho0, hb⟩; refine ⟨_, rfl, ?_⟩; have HO265 := Aside0.mk (Kd.V_lower (Kd.V_mono (ok' := fun k_ => True) ho0 (fun k_ hk_ => trivial)) (below_size (bw_ HB.out))); replace HB := bq_ HB hb; (try clear hb); (try clear hb2); (try clear hk); (try clear hi); (try clear ho0); obtain ⟨Ao13, co13, eo13⟩ := Kd.V_slice HO265.out; subst eo13))
    go_ret
    exact ⟨_, rf_, by first | exact Kd.R_nil _ _ _ _ _ | exact Kd.N_nil _ _ _ _ _ | exact Kd.V_nil _ _ _ _ _ | exact Kd.Q_nil _ _ _ _ _ | exact Kd.S_nil _ _ _ _ _, bw_ HB.out⟩
   ·rw [if_neg c11] at H
    have c11b0 : ((t263.length : Int) == 0) = false := beq_eq_false_iff_ne.mpr c11
    have c11b1 : ((t263.length : Int) != 0) = true := bne_iff_ne.mpr c11
    have c11b2 : ¬ (t263 = []) := fun h_ => c11 (by rw [h_]; rfl)
    obtain ⟨ji14, hji14⟩ : ∃ j_ : Int, (wrap64 ((wrap64 ((t263.length : Int) + (wrap64 (Int.tdiv a1 32)))) + 1)) = j_ := ⟨_, rfl⟩
    (first | rw [hji14] at H | simp only [hji14] at H)
    (try rw [hji14] at A3)
    have hji14w : (IntKind.i64.wrap ((wrap64 ((t263.length : Int) + (wrap64 (Int.tdiv a1 32)))) + 1)) = ji14 := (i64_w _).trans hji14
    by_cases c15 : 0 ≤ (ji14)
    ·rw [if_pos c15] at H
     have c15b0 := eq_true c15
     have c15b1 : decide (0 ≤ (ji14)) = true := decide_eq_true c15
     clear c15
     by_cases c16 : (ji14 : Int).toNat ≤ 70368744177664
     ·rw [if_pos c16] at H
      have c16b0 := eq_true c16
      have c16b1 : decide ((ji14 : Int).toNat ≤ 70368744177664) = true := decide_eq_true c16
      clear c16
      obtain ⟨y269, hy269⟩ : ∃ y_ : List Int, y_ = (List.replicate (ji14 : Int).toNat 0) := ⟨_, rfl⟩
      replace H : (nat_Shl.l0 k (wrap64 (Int.tdiv a1 32)) (Int.tmod a1 32) y269 t263 (t263.length : Int) 0) = some r := by first | (rw [hy269]; with_reducible exact H) | (have H2_ := (Option.bind_some _ _).symm.trans H; rw [hy269]; with_reducible exact H2_) | (have H2_ := (Option.bind_some _ _).symm.trans H; with_reducible exact H2_) | with_reducible exact H | (rw [hy269]; exact H) | exact H
      have Ny269 := Aside0.mk hy269
      clear hy269
      have H' := Aside0.mk H
      clear H
      go_enter Tryd.func52, Tryd.ntmps52
      go_wp2_with (first | ((with_reducible refine gate_callee (f := 67) rfl ?_); refine gl_ (some 12) Tryd.func67 #[.slice A0 l0.length c0] ?_; (with_reducible refine (nat_cut.calls k (fun k_ => k_ < w.heap.size) _ _ l0 t263 _ ?side1 A3.out).mono ?_); (case side1 => exact Kd.V_mk HC0.out (Kd.F_below (Kd.C_F (Kd.heap_int .u32) HR0.out) (bw_ HB.out))); rintro e w17 ⟨v264, rfl, ho0, hb⟩; refine ⟨_, rfl, ?_⟩; have HO265 := Aside0.mk (Kd.V_lower (Kd.V_mono (ok' := fun k_ => True) ho0 (fun k_ hk_ => trivial)) (below_size (bw_ HB.out))); replace HB := bq_ HB hb; (try clear hb); (try clear hb2); (try clear hk); (try clear hi); (try clear ho0); obtain ⟨Ao18, co18, eo18⟩ := Kd.V_slice HO265.out; subst eo18) | ((with_reducible refine gate_dst (N := 35) rfl ?_); (try (refine gate_guard (by rfl) ?_; dsimp only)); refine Kd.R_make (Kd.int .u32) _ 51 rfl (N := 35) rfl 22 _ _ rfl ji14 rfl rfl Tryd.underlying22 (.int .u32 0) 4 info51 rfl (by decide) (by omega) 0 (ok := fun _ => True) (okp := fun _ => True) rfl (fun _ hk => hk) trivial (of_decide_eq_true (by first | (with_reducible assumption) | assumption)) (Nat.le_trans (Nat.mul_le_mul_right _ (of_decide_eq_true (by first | (with_reducible assumption) | assumption) : ji14.toNat ≤ 70368744177664)) (by omega)) (Below.refl _ _) (Nat.le_refl _) ?_; intro v270 w19 ho20 hb hg_ hnew_; clear hg_ hnew_; (first | rw [← Ny269.out] at ho20 | (simp only [Int.reduceToNat] at ho20; rw [← Ny269.out] at ho20)); have n0_ := Aside0.mk (Kd.V_elder' (by (with_reducible repeat (first | apply Kd.V_alloc | apply Kd.V_drewN | apply Kd.V_drew)); exact HO265.out) (Kd.R_base ho20) hb); have n1_ := Aside0.mk (Kd.R_lower ho20 (below_size (bw_ HB.out))); have n2_ := bq_ HB hb; clear HO265; clear HB; have HO265 := n0_; have HO271 := n1_; have HB := n2_; clear n0_ n1_ n2_; clear hb ho20))
      go_loopg [38] k (fun kq v38 w' => ∃ (x7_1 : List Int) (x38_1 : Int), v38 = .int .i64 x38_1 ∧ Aside0 (nat_Shl.l0 kq (wrap64 (Int.tdiv a1 32)) (Int.tmod a1 32) x7_1 t263 (t263.length : Int) x38_1 = some r) ∧ Aside0 (kq ≤ k) ∧ Aside0 (Kd.R (Kd.int .u32) 51 w' w.heap.size (fun _ => True) v270 x7_1) ∧ Aside0 (Kd.V (Kd.int .u32) 51 w' w.heap.size (fun k_ => some k_ ≠ (v270 : Value).ownBlock) (.slice Ao18 t263.length co18) t263) ∧ Aside0 (Below w.heap.size w w'))
      case atStart => exact ⟨(y269), (0), (by first | rfl | (simp; done) | (simp [*]; done)), H', ⟨Nat.le_refl _⟩, ⟨by (with_reducible repeat (first | apply Kd.R_alloc | apply Kd.R_drewN | apply Kd.R_drew)); exact HO271.out⟩, ⟨by (with_reducible repeat (first | apply Kd.V_alloc | apply Kd.V_drewN | apply Kd.V_drew)); exact Kd.V_mono HO265.out (fun _ hk => hk.2)⟩, ⟨bw_ HB.out⟩⟩
      case round =>
       clear H'
       try clear c1
       try clear p2
       try clear c4
       try clear c4b0
       try clear c5
       try clear c6
       try clear p6
       try clear c9
       try clear c9b0
       try clear c11
       try clear c11b0
       try clear c11b1
       try clear c11b2
       try clear c15
       try clear c15b0
       try clear c15b1
       try clear c16
       try clear c16b0
       try clear c16b1
       obtain ⟨x7_1, x38_1, rfl, HA, HK1, HO_7, HO_36, HB⟩ := hrel
       cases gk with
       | zero => exact absurd HA.out (by simp [nat_Shl.l0])
       | succ k1 =>
        have H := HA.out
        clear HA
        simp only [nat_Shl.l0] at H
        by_cases c21 : x38_1 < (t263.length : Int)
        ·rw [if_pos c21] at H
         have c21b0 : decide (x38_1 < (t263.length : Int)) = true := decide_eq_true c21
         clear c21
         by_cases c22 : 0 ≤ x38_1
         ·rw [if_pos c22] at H
          have c22b0 : decide (0 ≤ x38_1) = true := decide_eq_true c22
          clear c22
          by_cases c23 : x38_1 < (t263.length : Int)
          ·rw [if_pos c23] at H
           have c23b0 : decide (x38_1 < (t263.length : Int)) = true := decide_eq_true c23
           clear c23
           obtain ⟨ji24, hji24⟩ : ∃ j_ : Int, (Int.tmod a1 32) = j_ := ⟨_, rfl⟩
           (first | rw [hji24] at H | simp only [hji24] at H)
           by_cases c25 : 0 ≤ (ji24)
           ·rw [if_pos c25] at H
            have c25b0 := eq_true c25
            have c25b1 : decide (0 ≤ (ji24)) = true := decide_eq_true c25
            clear c25
            obtain ⟨ji26, hji26⟩ : ∃ j_ : Int, (shl .u64 (IntKind.u64.wrap (rd t263 x38_1)) (ji24)) = j_ := ⟨_, rfl⟩
            (first | rw [hji26] at H | simp only [hji26] at H)
            have hji26_ : (IntKind.u64.wrap ((IntKind.u64.wrap (rd t263 x38_1)) * 2 ^ min (ji24).toNat 64)) = ji26 := hji26
            have hji26z : (ji24) ≤ 64 → (IntKind.u64.wrap ((IntKind.u64.wrap (rd t263 x38_1)) * 2 ^ (ji24).toNat)) = ji26 := shl_small hji26
            obtain ⟨ji27, hji27⟩ : ∃ j_ : Int, (wrap64 (x38_1 + (wrap64 (Int.tdiv a1 32)))) = j_ := ⟨_, rfl⟩
            (first | rw [hji27] at H | simp only [hji27] at H)
            have hji27w : (IntKind.i64.wrap (x38_1 + (wrap64 (Int.tdiv a1 32)))) = ji27 := (i64_w _).trans hji27
            by_cases c28 : 0 ≤ (ji27)
            ·rw [if_pos c28] at H
             have c28b0 : decide (0 ≤ (ji27)) = true := decide_eq_true c28
             clear c28
             by_cases c29 : (ji27) < (x7_1.length : Int)
             ·rw [if_pos c29] at H
              have c29b0 : decide ((ji27) < (x7_1.length : Int)) = true := decide_eq_true c29
              clear c29
              obtain ⟨y274, hy274⟩ : ∃ y_ : List Int, y_ = (x7_1.set ((ji27) : Int).toNat (Go.bits .or .u32 (rd x7_1 (ji27)) ((ji26) % 4294967296))) := ⟨_, rfl⟩
              replace H : (if 0 ≤ (wrap64 ((ji27) + 1)) then (if (wrap64 ((ji27) + 1)) < (x7_1.length : Int) then (nat_Shl.l0 k1 (wrap64 (Int.tdiv a1 32)) (ji24) (y274.set ((wrap64 ((ji27) + 1)) : Int).toNat (Go.bits .or .u32 (rd y274 (wrap64 ((ji27) + 1))) (((ji26) / 4294967296) % 4294967296))) t263 (t263.length : Int) (wrap64 (x38_1 + 1))) else (none)) else (none)) = some r := by first | (rw [hy274]; with_reducible exact H) | (have H2_ := (Option.bind_some _ _).symm.trans H; rw [hy274]; with_reducible exact H2_) | (have H2_ := (Option.bind_some _ _).symm.trans H; with_reducible exact H2_) | with_reducible exact H | (rw [hy274]; exact H) | exact H
              have Ny274 := Aside0.mk hy274
              clear hy274
              obtain ⟨ji31, hji31⟩ : ∃ j_ : Int, (wrap64 ((ji27) + 1)) = j_ := ⟨_, rfl⟩
              (first | rw [hji31] at H | simp only [hji31] at H)
              have hji31w : (IntKind.i64.wrap ((ji27) + 1)) = ji31 := (i64_w _).trans hji31
              by_cases c32 : 0 ≤ (ji31)
              ·rw [if_pos c32] at H
               have c32b0 : decide (0 ≤ (ji31)) = true := decide_eq_true c32
               clear c32
               by_cases c33 : (ji31) < (x7_1.length : Int)
               ·rw [if_pos c33] at H
                have c33b0 : decide ((ji31) < (x7_1.length : Int)) = true := decide_eq_true c33
                clear c33
                obtain ⟨y276, hy276⟩ : ∃ y_ : List Int, y_ = (y274.set ((ji31) : Int).toNat (Go.bits .or .u32 (rd y274 (ji31)) (((ji26) / 4294967296) % 4294967296))) := ⟨_, rfl⟩
                replace H : (nat_Shl.l0 k1 (wrap64 (Int.tdiv a1 32)) (ji24) y276 t263 (t263.length : Int) (wrap64 (x38_1 + 1))) = some r := by first | (rw [hy276]; with_reducible exact H) | (have H2_ := (Option.bind_some _ _).symm.trans H; rw [hy276]; with_reducible exact H2_) | (have H2_ := (Option.bind_some _ _).symm.trans H; with_reducible exact H2_) | with_reducible exact H | (rw [hy276]; exact H) | exact H
                have Ny276 := Aside0.mk hy276
                clear hy276
                have H' := Aside0.mk H
                clear H
                have p272 : 0 ≤ (x38_1 : Int) := of_decide_eq_true (by first | (with_reducible assumption) | assumption)
                have q272 : x38_1 < (t263.length : Int) := of_decide_eq_true (by first | (with_reducible assumption) | assumption)
                obtain ⟨ad272, e272, hx272_0⟩ := Kd.at_int (Kd.V_reads' HO_36.out).2.2 x38_1 p272 q272
                cases e272
                replace p272 := eq_true p272
                replace q272 := eq_true q272
                obtain ⟨Ao35, co35, eo35⟩ := Kd.R_slice HO_7.out
                subst eo35
                have p273 : 0 ≤ ((ji27) : Int) := of_decide_eq_true (by first | (with_reducible assumption) | assumption)
                have q273 : (ji27) < (x7_1.length : Int) := of_decide_eq_true (by first | (with_reducible assumption) | assumption)
                obtain ⟨ad273, e273, hx273_0⟩ := Kd.at_int (Kd.R_reads' HO_7.out).2.2 (ji27) p273 q273
                cases e273
                replace p273 := eq_true p273
                replace q273 := eq_true q273
                have p30 : 0 ≤ ((ji27) : Int) := of_decide_eq_true (by first | (with_reducible assumption) | assumption)
                have q30 : ((ji27) : Int) < ((x7_1.length : Int) : Int) := of_decide_eq_true (by first | (with_reducible assumption) | assumption)
                obtain ⟨go30, co30, eo30, gb30, gl30, cl30, HG30⟩ := Kd.R_form HO_7.out (by omega)
                (first | cases eo30 | (injection eo30 with ea_ en_ ec_; (first | subst ea_ | (injection ea_ with ea_; subst ea_)); subst ec_; clear en_))
                have GB30 := Aside0.mk gb30
                have GG30 := Aside0.mk HG30
                clear gb30 gl30 HG30
                (first | simp only [add_plain] at hx273_0 | skip)
                obtain ⟨hx30_0, hf30_0⟩ := Kd.R_celln 0 HO_7.out ((ji27) : Int) p30 q30
                replace p30 := eq_true p30
                replace q30 := eq_true q30
                have HP36 := Kd.R_putg HO_7.out ((ji27) : Int) (Go.bits .or .u32 (rd x7_1 (ji27)) ((ji26) % 4294967296))
                go_wp2_with (first | ((with_reducible refine gate_store (t := 51) (p := 56) rfl ?_); refine store_event (t := 51) (p := 56) (v := ?vo_w37) (w1 := (wr.setCell ⟨go30, ((ji27) : Int).toNat, none⟩ (.int .u32 (Go.bits .or .u32 (rd x7_1 (ji27)) ((ji26) % 4294967296))))) ?hg ?ho ?hn ?hr ?_; (case ho => rfl); (case hg => rfl); (case hn => rfl); (case hr => first | (go_simp; done) | (go_simp; rfl)); intro w37 hw; have hg : wr.grownBy w37 (some go30) := (by rw [hw]; exact HP36.2); have hp_ : Kd.R (Kd.int .u32) 51 w37 w.heap.size (fun _ => True) (.slice (some ⟨go30, 0, none⟩) x7_1.length co35) y274 := (by rw [hw, Ny274.out]; exact HP36.1); clear HP36; have n0_ := Aside0.mk (hp_); have n1_ := Aside0.mk (Kd.V_afterv (v := (.slice (some ⟨go30, 0, none⟩) x7_1.length co35)) (v1 := (.slice (some ⟨go30, 0, none⟩) x7_1.length co35)) (ok := (fun _ => True)) (by (with_reducible repeat (first | apply Kd.V_alloc | apply Kd.V_drewN | apply Kd.V_drew)); exact Kd.V_mono HO_36.out (fun _ hk => by first | exact ⟨trivial, hk⟩ | (simp only [ob_map] at hk ⊢; exact ⟨trivial, hk⟩))) hg (.inl rfl)); have n2_ := Aside0.mk ((by rw [hw]; exact below_set (HB.out) GB30.out : Below w.heap.size w w37)); clear HO_7; clear HO_36; clear HB; have HO_7 := n0_; have HO_36 := n1_; have HB := n2_; clear n0_ n1_ n2_; clear hg hw hp_; have p275 : 0 ≤ ((ji31) : Int) := of_decide_eq_true (by first | (with_reducible assumption) | assumption); have q275 : (ji31) < (y274.length : Int) := (by have h_ : ((ji31) : Int) < ((x7_1.length : Int) : Int) := of_decide_eq_true (by first | (with_reducible assumption) | assumption); first | (have e_ := (Kd.R_reads' HO_7.out).1; omega) | simpa only [Ny274.out, List.length_set] using h_); have ql275 : (((ji31) : Int) < ((x7_1.length : Int) : Int)) = True := eq_true (of_decide_eq_true (by first | (with_reducible assumption) | assumption)); obtain ⟨ad275, e275, hx275_0⟩ := Kd.at_int (Kd.R_reads' HO_7.out).2.2 (ji31) p275 q275; obtain rfl : (⟨go30, 0, none⟩ : Addr) = ad275 := (by injection e275); (first | simp only [add_plain] at hx275_0 | simp only [add_at] at hx275_0 | simp only [Addr.add, Nat.zero_add] at hx275_0 | skip); replace p275 := eq_true p275; replace q275 := eq_true q275; have p34 : 0 ≤ ((ji31) : Int) := of_decide_eq_true (by first | (with_reducible assumption) | assumption); have q34 : ((ji31) : Int) < ((x7_1.length : Int) : Int) := of_decide_eq_true (by first | (with_reducible assumption) | assumption); obtain ⟨hx34_0, hf34_0⟩ := Kd.R_celln 0 HO_7.out ((ji31) : Int) p34 q34; replace p34 := eq_true p34; replace q34 := eq_true q34; obtain ⟨hy38_, hz38_⟩ := Kd.R_celln 0 HO_7.out ((ji31) : Int) (of_decide_eq_true (by first | (with_reducible assumption) | assumption)) (of_decide_eq_true (by first | (with_reducible assumption) | assumption)); have HP38 := Kd.R_putg HO_7.out ((ji31) : Int) (Go.bits .or .u32 (rd y274 (ji31)) (((ji26) / 4294967296) % 4294967296))) | ((with_reducible refine gate_store (t := 51) (p := 68) rfl ?_); refine store_event (t := 51) (p := 68) (v := ?vo_w39) (w1 := (w37.setCell ⟨go30, ((ji31) : Int).toNat, none⟩ (.int .u32 (Go.bits .or .u32 (rd y274 (ji31)) (((ji26) / 4294967296) % 4294967296))))) ?hg ?ho ?hn ?hr ?_; (case ho => rfl); (case hg => rfl); (case hn => rfl); (case hr => first | (go_simp; done) | (go_simp; rfl)); intro w39 hw; have hg : w37.grownBy w39 (some go30) := (by rw [hw]; exact HP38.2); have hp_ : Kd.R (Kd.int .u32) 51 w39 w.heap.size (fun _ => True) (.slice (some ⟨go30, 0, none⟩) x7_1.length co35) y276 := (by rw [hw, Ny276.out]; exact HP38.1); clear HP38; have n0_ := Aside0.mk (hp_); have n1_ := Aside0.mk (Kd.V_afterv (v := (.slice (some ⟨go30, 0, none⟩) x7_1.length co35)) (v1 := (.slice (some ⟨go30, 0, none⟩) x7_1.length co35)) (ok := (fun _ => True)) (by (with_reducible repeat (first | apply Kd.V_alloc | apply Kd.V_drewN | apply Kd.V_drew)); exact HO_36.out) hg (.inl rfl)); have n2_ := Aside0.mk ((by rw [hw]; exact below_set (HB.out) GB30.out : Below w.heap.size w w39)); clear HO_7; clear HO_36; clear HB; have HO_7 := n0_; have HO_36 := n1_; have HB := n2_; clear n0_ n1_ n2_; clear hg hw hp_))
                (try subst hji24)
                go_roundg k1
                case measure => have := HK1.out; omega
                case rel => exact ⟨(y276), (wrap64 (x38_1 + 1)), (by first | rfl | (simp; done) | (simp [*]; done)), H', ⟨by have := HK1.out; omega⟩, ⟨by (with_reducible repeat (first | apply Kd.R_alloc | apply Kd.R_drewN | apply Kd.R_drew)); exact HO_7.out⟩, ⟨by (with_reducible repeat (first | apply Kd.V_alloc | apply Kd.V_drewN | apply Kd.V_drew)); exact Kd.V_mono HO_36.out (fun _ hk => hk.2)⟩, ⟨bw_ HB.out⟩⟩
               ·rw [if_neg c33] at H
                exact absurd H (by simp)
              ·rw [if_neg c32] at H
               exact absurd H (by simp)
             ·rw [if_neg c29] at H
              exact absurd H (by simp)
            ·rw [if_neg c28] at H
             exact absurd H (by simp)
           ·rw [if_neg c25] at H
            exact absurd H (by simp)
          ·rw [if_neg c23] at H
           exact absurd H (by simp)
         ·rw [if_neg c22] at H
          exact absurd H (by simp)
        ·rw [if_neg c21] at H
         have c21b0 : decide (x38_1 < (t263.length : Int)) = false := decide_eq_false c21
         clear c21
         replace H := Option.bind_eq_some_iff.mp H
         obtain ⟨t277, A400, H⟩ := H
         (try dsimp only at H)
         have A40 := Aside0.mk A400
         clear A400
         obtain rfl := Option.some.inj H
         obtain ⟨Ao41, co41, eo41⟩ := Kd.R_slice HO_7.out
         subst eo41
         go_wp2_with (first | ((with_reducible refine gate_callee (f := 67) rfl ?_); refine gl_ (some 71) Tryd.func67 #[.slice Ao41 x7_1.length co41] ?_; (with_reducible refine (nat_cut_own.calls k1 (fun k_ => some k_ = (.slice Ao41 x7_1.length co41 : Value).ownBlock) (.slice Ao41 x7_1.length co41) x7_1 t277 w _ ?side1 ?side2 A40.out).mono ?_); (case side1 => repeat (first | (with_reducible first | exact HB.out | apply below_alloc | apply pw_below_drewN | apply below_drew1) | exact HB.out)); (case side2 => exact Kd.R_tight rfl HO_7.out); rintro e w42 ⟨v278, rfl, ho0, hb, hkp⟩; refine ⟨_, rfl, ?_⟩; have HO279 := Aside0.mk (Kd.R_mono (ok' := fun k_ => True) ho0 (fun k_ hk_ => trivial)); replace HO_36 := Aside0.mk (Kd.V_mono (ok' := fun k_ => some k_ ≠ (v278 : Value).ownBlock) (Kd.V_keptB (HO_36.out) hkp (fun k_ hk_ hs_ => (hk_) hs_)) (fun k_ hk_ => fun e_ => Or.elim (ho0.1 k_ e_.symm) (fun hs_ => hk_.2.1 hs_) (fun hn_ => Nat.not_le.2 hk_.2.2 hn_))); replace HB := Aside0.mk (hb); clear HO_7; (try clear hb); (try clear hkp); (try clear ho0)))
         go_ret
         exact ⟨_, by first | rfl | (simp [errW_none, errW_some] <;> rfl) | (simp only [← hji14]; first | rfl | (simp [errW_none, errW_some] <;> rfl)) | (simp [*, errW_none, errW_some] <;> rfl), by (with_reducible repeat (first | apply Kd.R_alloc | apply Kd.R_drewN | apply Kd.R_drew)); exact HO279.out, bw_ HB.out⟩
     ·rw [if_neg c16] at H
      exact absurd H (by simp)
    ·rw [if_neg c15] at H
     exact absurd H (by simp)

end Go.Proofs.YtaookeneeemfbaaDoor.PA
