-- Laid by this work's own program; Lean checks it.
import Derived.Test.YtaookeneeemfbaaDoorPAx0
import Derived.Test.YtaookeneeemfbaaDoorPAx1
import Derived.Test.YtaookeneeemfbaaDoorPAx2
import Derived.Test.YtaookeneeemfbaaDoorPAx4
namespace Go.Proofs.YtaookeneeemfbaaDoor.PA
open Go.RowKit Go.Proofs.YtaookeneeemfbaaDoorW.PrintWords Go.Proofs.YtaookeneeemfbaaDoorW.PrintLast Go.Proofs.YtaookeneeemfbaaDoorW.PrintMore
attribute [local go_sem] max2_int min2_int max_two min_two max_three min_three max_four min_four   -- for this text's walks alone
set_option linter.unusedVariables false
set_option linter.unusedSimpArgs false

attribute [local go_sem ↓ high] isSome_set_
/-! ### peloruslaw02_Few: function 22 -/
set_option maxHeartbeats 8000000 in
set_option maxRecDepth 100000 in
theorem peloruslaw02_Few.calls (a0_0 : Bool) (A0_1 : Option Addr) (c0_1 : Nat) (l0_1 : List Int) (r : Bool) (w : World) (hr0_1 : Kd.C (Kd.int .u32) w A0_1 l0_1.length l0_1) (hc0_1 : l0_1.length ≤ c0_1) (h : peloruslaw02_Few.f a0_0 l0_1 = some r) :
  Calls Tryd.prog 22 #[.agg #[.bool a0_0, .slice A0_1 l0_1.length c0_1]] w fun e w' => e = .returned (.bool r) ∧ Below w.heap.size w w' := by
 have hu24 := Tryd.underlying24
 have HR0_1 := Aside0.mk hr0_1
 have HC0_1 := Aside0.mk hc0_1
 clear hr0_1 hc0_1
 have HB := Aside0.mk (Below.refl w.heap.size w)
 have H : (some (decide ((l0_1.length : Int) ≤ 40))) = some r := h
 clear h
 obtain rfl := Option.some.inj H
 go_enter Tryd.func22, Tryd.ntmps22
 go_wp2_with (first | ((with_reducible refine gate_dst (N := 1) rfl ?_); refine bx_ 1 #[.bool a0_0, .slice A0_1 l0_1.length c0_1] 24 ?_; intro gb731 hg w2 hbox hb; have BK731 := Aside0.mk (hbox); have GW731 := ge_ hg HB; have GE731 := ge_ hg HB; replace HB := bq_ HB hb; clear hb hbox hg; obtain ⟨hcz3_0, hcz3_1, hfz3_0, hfz3_1⟩ := c2_ BK731))
 go_ret
 exact ⟨rf_, bw_ HB.out⟩

/-! ### whole_Cmp: function 55 -/
set_option maxHeartbeats 8000000 in
set_option maxRecDepth 100000 in
theorem whole_Cmp.calls (k : Nat) (a0_0 : Bool) (A0_1 : Option Addr) (c0_1 : Nat) (l0_1 : List Int) (a1_0 : Bool) (A1_1 : Option Addr) (c1_1 : Nat) (l1_1 : List Int) (r : Int) (w : World) (hr0_1 : Kd.C (Kd.int .u32) w A0_1 l0_1.length l0_1) (hc0_1 : l0_1.length ≤ c0_1) (hr1_1 : Kd.C (Kd.int .u32) w A1_1 l1_1.length l1_1) (hc1_1 : l1_1.length ≤ c1_1) (h : whole_Cmp.f k a0_0 l0_1 a1_0 l1_1 = some r) :
  Calls Tryd.prog 55 #[.agg #[.bool a0_0, .slice A0_1 l0_1.length c0_1], .agg #[.bool a1_0, .slice A1_1 l1_1.length c1_1]] w fun e w' => e = .returned (.int .i64 r) ∧ Below w.heap.size w w' := by
 have hu24 := Tryd.underlying24
 have HR0_1 := Aside0.mk hr0_1
 have HC0_1 := Aside0.mk hc0_1
 clear hr0_1 hc0_1
 have HR1_1 := Aside0.mk hr1_1
 have HC1_1 := Aside0.mk hc1_1
 clear hr1_1 hc1_1
 have HB := Aside0.mk (Below.refl w.heap.size w)
 have H : ((whole_Sign.f k a0_0 l0_1).bind fun t734 => ((whole_Sign.f k a1_0 l1_1).bind fun t735 => (if t734 < t735 then (some (-1)) else (if t734 > t735 then (some 1) else ((nat_Cmp.f k l0_1 l1_1).bind fun t736 => (some (wrap64 (t734 * t736)))))))) = some r := h
 clear h
 replace H := Option.bind_eq_some_iff.mp H
 obtain ⟨t734, A30, H⟩ := H
 (try dsimp only at H)
 have A3 := Aside0.mk A30
 clear A30
 replace H := Option.bind_eq_some_iff.mp H
 obtain ⟨t735, A40, H⟩ := H
 (try dsimp only at H)
 have A4 := Aside0.mk A40
 clear A40
 by_cases c5 : t734 < t735
 ·rw [if_pos c5] at H
  have c5b0 : decide (t734 < t735) = true := decide_eq_true c5
  clear c5
  obtain rfl := Option.some.inj H
  go_enter Tryd.func55, Tryd.ntmps55
  try go_wp2_with (first | ((with_reducible refine gate_dst (N := 2) rfl ?_); refine bx_ 2 #[.bool a0_0, .slice A0_1 l0_1.length c0_1] 24 ?_; intro gb732 hg w6 hbox hb; have BK732 := Aside0.mk (hbox); have GW732 := ge_ hg HB; have GE732 := ge_ hg HB; replace HB := bq_ HB hb; clear hb hbox hg) | ((with_reducible refine gate_dst (N := 3) rfl ?_); refine bx_ 3 #[.bool a1_0, .slice A1_1 l1_1.length c1_1] 24 ?_; intro gb733 hg w7 hbox hb; have BK733 := Aside0.mk (hbox); have GW733 := ge_ hg HB; have GE733 := ge_ hg HB; have NB732_733 := nb_ hg BK732; have NB733_732 := nc_ hg BK732; replace BK732 := kq_ BK732 hb; replace HB := bq_ HB hb; clear hb hbox hg))
  replace BK732 := Aside0.mk (blk_drew BK732.out)
  replace BK733 := Aside0.mk (blk_drew BK733.out)
  replace HB := Aside0.mk (below_drew1 HB.out)
  refine start_ (n := 6) (S := fun w' => w'.cell? ⟨gb732, 0, none⟩ = some (.bool a0_0) ∧ w'.cell? ⟨gb732, 1, none⟩ = some (.slice A0_1 l0_1.length c0_1) ∧ w'.cell? ⟨gb733, 0, none⟩ = some (.bool a1_0) ∧ w'.cell? ⟨gb733, 1, none⟩ = some (.slice A1_1 l1_1.length c1_1)) (ds := []) #[false, false, false, false, false, false] (by kernel_rfl) rfl rfl ⟨(blk_cell BK732.out 0).trans rfl, (blk_cell BK732.out 1).trans rfl, (blk_cell BK733.out 0).trans rfl, (blk_cell BK733.out 1).trans rfl⟩ (fun hHeld => ?_)
  generalize w7.drew = w8 at BK732 BK733 HB hHeld ⊢
  refine take_ (i := 0) (N := some 7) (v := ?_) (a' := ?_) #[true, false, false, false, false, false] rfl rfl (by kernel_rfl) (fun _ _ _ h => h) (Or.inl ⟨by rfl, ?_⟩) hHeld ?_ ?_
  rotate_left
  ·rintro w' ⟨s0, s1, s2, s3⟩
   go_simp
   with_reducible rfl
  rotate_left
  ·exact pt_
  refine take_ (i := 2) (N := some 9) (v := ?_) (a' := ?_) #[true, false, true, false, false, false] rfl rfl (by kernel_rfl) (fun _ _ _ h => h) (Or.inl ⟨by rfl, ?_⟩) hHeld ?_ ?_
  rotate_left
  ·rintro w' ⟨s0, s1, s2, s3⟩
   go_simp
   with_reducible rfl
  rotate_left
  ·exact pt_
  refine one_ (i := 1) (N := some 8) #[true, true, true, false, false, false] rfl rfl (by kernel_rfl) (by decide) (fun K hK => ?_)
  refine gs_ Tryd.func38 #[.agg #[.bool a0_0, .slice A0_1 l0_1.length c0_1]] ?_
  with_reducible refine (whole_Sign.calls k a0_0 _ _ l0_1 t734 _ ?side1 ?side2 A3.out).mono ?_
  (case side1 => exact kc_ (Kd.C_below HR0_1.out HB.out))
  (case side2 => exact HC0_1.out)
  rintro e w9 ⟨rfl, hb⟩
  refine ⟨_, rfl, ?_⟩
  replace BK732 := kq_ BK732 hb
  replace BK733 := kq_ BK733 hb
  replace HB := bq_ HB hb
  (try clear hb)
  (try clear hb2)
  (try clear hk)
  (try clear hi)
  refine hK.out _ _ ⟨(blk_cell BK732.out 0).trans rfl, (blk_cell BK732.out 1).trans rfl, (blk_cell BK733.out 0).trans rfl, (blk_cell BK733.out 1).trans rfl⟩ (fun hHeld => ?_)
  clear hK K
  refine norm_ (a' := ?_) ?_ ?_
  rotate_left
  ·show Act.put _ (some 8) _ = _
   exact pt_
  refine one_ (i := 3) (N := some 10) #[true, true, true, true, false, false] rfl rfl (by kernel_rfl) (by decide) (fun K hK => ?_)
  refine gs_ Tryd.func38 #[.agg #[.bool a1_0, .slice A1_1 l1_1.length c1_1]] ?_
  with_reducible refine (whole_Sign.calls k a1_0 _ _ l1_1 t735 _ ?side1 ?side2 A4.out).mono ?_
  (case side1 => exact kc_ (Kd.C_below HR1_1.out HB.out))
  (case side2 => exact HC1_1.out)
  rintro e w10 ⟨rfl, hb⟩
  refine ⟨_, rfl, ?_⟩
  replace BK732 := kq_ BK732 hb
  replace BK733 := kq_ BK733 hb
  replace HB := bq_ HB hb
  (try clear hb)
  (try clear hb2)
  (try clear hk)
  (try clear hi)
  refine hK.out _ _ ⟨(blk_cell BK732.out 0).trans rfl, (blk_cell BK732.out 1).trans rfl, (blk_cell BK733.out 0).trans rfl, (blk_cell BK733.out 1).trans rfl⟩ (fun hHeld => ?_)
  clear hK K
  refine norm_ (a' := ?_) ?_ ?_
  rotate_left
  ·show Act.put _ (some 10) _ = _
   exact pt_
  refine pure_ (i := 4) (N := some 5) (v := ?_) (a' := ?_) #[true, true, true, true, true, false] rfl rfl (by kernel_rfl) (fun _ _ _ h => h) (Or.inl ⟨by rfl, ?_⟩) ?_ ?_
  rotate_left
  ·intro w'
   go_simp
   with_reducible rfl
  rotate_left
  ·exact pt_
  refine pure_ (i := 5) (N := some 6) (v := ?_) (a' := ?_) #[true, true, true, true, true, true] rfl rfl (by kernel_rfl) (fun _ _ _ h => h) (Or.inl ⟨by rfl, ?_⟩) ?_ ?_
  rotate_left
  ·intro w'
   go_simp
   with_reducible rfl
  rotate_left
  ·exact pt_
  refine done_ (by kernel_rfl) ?_
  try go_wp2
  go_ret
  exact ⟨rf_, bw_ HB.out⟩
 ·rw [if_neg c5] at H
  have c5b0 : decide (t734 < t735) = false := decide_eq_false c5
  clear c5
  by_cases c11 : t734 > t735
  ·rw [if_pos c11] at H
   have c11b0 : decide (t735 < t734) = true := decide_eq_true c11
   clear c11
   obtain rfl := Option.some.inj H
   go_enter Tryd.func55, Tryd.ntmps55
   try go_wp2_with (first | ((with_reducible refine gate_dst (N := 2) rfl ?_); refine bx_ 2 #[.bool a0_0, .slice A0_1 l0_1.length c0_1] 24 ?_; intro gb732 hg w12 hbox hb; have BK732 := Aside0.mk (hbox); have GW732 := ge_ hg HB; have GE732 := ge_ hg HB; replace HB := bq_ HB hb; clear hb hbox hg) | ((with_reducible refine gate_dst (N := 3) rfl ?_); refine bx_ 3 #[.bool a1_0, .slice A1_1 l1_1.length c1_1] 24 ?_; intro gb733 hg w13 hbox hb; have BK733 := Aside0.mk (hbox); have GW733 := ge_ hg HB; have GE733 := ge_ hg HB; have NB732_733 := nb_ hg BK732; have NB733_732 := nc_ hg BK732; replace BK732 := kq_ BK732 hb; replace HB := bq_ HB hb; clear hb hbox hg))
   replace BK732 := Aside0.mk (blk_drew BK732.out)
   replace BK733 := Aside0.mk (blk_drew BK733.out)
   replace HB := Aside0.mk (below_drew1 HB.out)
   refine start_ (n := 6) (S := fun w' => w'.cell? ⟨gb732, 0, none⟩ = some (.bool a0_0) ∧ w'.cell? ⟨gb732, 1, none⟩ = some (.slice A0_1 l0_1.length c0_1) ∧ w'.cell? ⟨gb733, 0, none⟩ = some (.bool a1_0) ∧ w'.cell? ⟨gb733, 1, none⟩ = some (.slice A1_1 l1_1.length c1_1)) (ds := []) #[false, false, false, false, false, false] (by kernel_rfl) rfl rfl ⟨(blk_cell BK732.out 0).trans rfl, (blk_cell BK732.out 1).trans rfl, (blk_cell BK733.out 0).trans rfl, (blk_cell BK733.out 1).trans rfl⟩ (fun hHeld => ?_)
   generalize w13.drew = w14 at BK732 BK733 HB hHeld ⊢
   refine take_ (i := 0) (N := some 7) (v := ?_) (a' := ?_) #[true, false, false, false, false, false] rfl rfl (by kernel_rfl) (fun _ _ _ h => h) (Or.inl ⟨by rfl, ?_⟩) hHeld ?_ ?_
   rotate_left
   ·rintro w' ⟨s0, s1, s2, s3⟩
    go_simp
    with_reducible rfl
   rotate_left
   ·exact pt_
   refine take_ (i := 2) (N := some 9) (v := ?_) (a' := ?_) #[true, false, true, false, false, false] rfl rfl (by kernel_rfl) (fun _ _ _ h => h) (Or.inl ⟨by rfl, ?_⟩) hHeld ?_ ?_
   rotate_left
   ·rintro w' ⟨s0, s1, s2, s3⟩
    go_simp
    with_reducible rfl
   rotate_left
   ·exact pt_
   refine one_ (i := 1) (N := some 8) #[true, true, true, false, false, false] rfl rfl (by kernel_rfl) (by decide) (fun K hK => ?_)
   refine gs_ Tryd.func38 #[.agg #[.bool a0_0, .slice A0_1 l0_1.length c0_1]] ?_
   with_reducible refine (whole_Sign.calls k a0_0 _ _ l0_1 t734 _ ?side1 ?side2 A3.out).mono ?_
   (case side1 => exact kc_ (Kd.C_below HR0_1.out HB.out))
   (case side2 => exact HC0_1.out)
   rintro e w15 ⟨rfl, hb⟩
   refine ⟨_, rfl, ?_⟩
   replace BK732 := kq_ BK732 hb
   replace BK733 := kq_ BK733 hb
   replace HB := bq_ HB hb
   (try clear hb)
   (try clear hb2)
   (try clear hk)
   (try clear hi)
   refine hK.out _ _ ⟨(blk_cell BK732.out 0).trans rfl, (blk_cell BK732.out 1).trans rfl, (blk_cell BK733.out 0).trans rfl, (blk_cell BK733.out 1).trans rfl⟩ (fun hHeld => ?_)
   clear hK K
   refine norm_ (a' := ?_) ?_ ?_
   rotate_left
   ·show Act.put _ (some 8) _ = _
    exact pt_
   refine one_ (i := 3) (N := some 10) #[true, true, true, true, false, false] rfl rfl (by kernel_rfl) (by decide) (fun K hK => ?_)
   refine gs_ Tryd.func38 #[.agg #[.bool a1_0, .slice A1_1 l1_1.length c1_1]] ?_
   with_reducible refine (whole_Sign.calls k a1_0 _ _ l1_1 t735 _ ?side1 ?side2 A4.out).mono ?_
   (case side1 => exact kc_ (Kd.C_below HR1_1.out HB.out))
   (case side2 => exact HC1_1.out)
   rintro e w16 ⟨rfl, hb⟩
   refine ⟨_, rfl, ?_⟩
   replace BK732 := kq_ BK732 hb
   replace BK733 := kq_ BK733 hb
   replace HB := bq_ HB hb
   (try clear hb)
   (try clear hb2)
   (try clear hk)
   (try clear hi)
   refine hK.out _ _ ⟨(blk_cell BK732.out 0).trans rfl, (blk_cell BK732.out 1).trans rfl, (blk_cell BK733.out 0).trans rfl, (blk_cell BK733.out 1).trans rfl⟩ (fun hHeld => ?_)
   clear hK K
   refine norm_ (a' := ?_) ?_ ?_
   rotate_left
   ·show Act.put _ (some 10) _ = _
    exact pt_
   refine pure_ (i := 4) (N := some 5) (v := ?_) (a' := ?_) #[true, true, true, true, true, false] rfl rfl (by kernel_rfl) (fun _ _ _ h => h) (Or.inl ⟨by rfl, ?_⟩) ?_ ?_
   rotate_left
   ·intro w'
    go_simp
    with_reducible rfl
   rotate_left
   ·exact pt_
   refine pure_ (i := 5) (N := some 6) (v := ?_) (a' := ?_) #[true, true, true, true, true, true] rfl rfl (by kernel_rfl) (fun _ _ _ h => h) (Or.inl ⟨by rfl, ?_⟩) ?_ ?_
   rotate_left
   ·intro w'
    go_simp
    with_reducible rfl
   rotate_left
   ·exact pt_
   refine done_ (by kernel_rfl) ?_
   try go_wp2
   go_ret
   exact ⟨rf_, bw_ HB.out⟩
  ·rw [if_neg c11] at H
   have c11b0 : decide (t735 < t734) = false := decide_eq_false c11
   clear c11
   replace H := Option.bind_eq_some_iff.mp H
   obtain ⟨t736, A170, H⟩ := H
   (try dsimp only at H)
   have A17 := Aside0.mk A170
   clear A170
   obtain rfl := Option.some.inj H
   go_enter Tryd.func55, Tryd.ntmps55
   try go_wp2_with (first | ((with_reducible refine gate_dst (N := 2) rfl ?_); refine bx_ 2 #[.bool a0_0, .slice A0_1 l0_1.length c0_1] 24 ?_; intro gb732 hg w18 hbox hb; have BK732 := Aside0.mk (hbox); have GW732 := ge_ hg HB; have GE732 := ge_ hg HB; replace HB := bq_ HB hb; clear hb hbox hg) | ((with_reducible refine gate_dst (N := 3) rfl ?_); refine bx_ 3 #[.bool a1_0, .slice A1_1 l1_1.length c1_1] 24 ?_; intro gb733 hg w19 hbox hb; have BK733 := Aside0.mk (hbox); have GW733 := ge_ hg HB; have GE733 := ge_ hg HB; have NB732_733 := nb_ hg BK732; have NB733_732 := nc_ hg BK732; replace BK732 := kq_ BK732 hb; replace HB := bq_ HB hb; clear hb hbox hg))
   replace BK732 := Aside0.mk (blk_drew BK732.out)
   replace BK733 := Aside0.mk (blk_drew BK733.out)
   replace HB := Aside0.mk (below_drew1 HB.out)
   refine start_ (n := 6) (S := fun w' => w'.cell? ⟨gb732, 0, none⟩ = some (.bool a0_0) ∧ w'.cell? ⟨gb732, 1, none⟩ = some (.slice A0_1 l0_1.length c0_1) ∧ w'.cell? ⟨gb733, 0, none⟩ = some (.bool a1_0) ∧ w'.cell? ⟨gb733, 1, none⟩ = some (.slice A1_1 l1_1.length c1_1)) (ds := []) #[false, false, false, false, false, false] (by kernel_rfl) rfl rfl ⟨(blk_cell BK732.out 0).trans rfl, (blk_cell BK732.out 1).trans rfl, (blk_cell BK733.out 0).trans rfl, (blk_cell BK733.out 1).trans rfl⟩ (fun hHeld => ?_)
   generalize w19.drew = w20 at BK732 BK733 HB hHeld ⊢
   refine take_ (i := 0) (N := some 7) (v := ?_) (a' := ?_) #[true, false, false, false, false, false] rfl rfl (by kernel_rfl) (fun _ _ _ h => h) (Or.inl ⟨by rfl, ?_⟩) hHeld ?_ ?_
   rotate_left
   ·rintro w' ⟨s0, s1, s2, s3⟩
    go_simp
    with_reducible rfl
   rotate_left
   ·exact pt_
   refine take_ (i := 2) (N := some 9) (v := ?_) (a' := ?_) #[true, false, true, false, false, false] rfl rfl (by kernel_rfl) (fun _ _ _ h => h) (Or.inl ⟨by rfl, ?_⟩) hHeld ?_ ?_
   rotate_left
   ·rintro w' ⟨s0, s1, s2, s3⟩
    go_simp
    with_reducible rfl
   rotate_left
   ·exact pt_
   refine one_ (i := 1) (N := some 8) #[true, true, true, false, false, false] rfl rfl (by kernel_rfl) (by decide) (fun K hK => ?_)
   refine gs_ Tryd.func38 #[.agg #[.bool a0_0, .slice A0_1 l0_1.length c0_1]] ?_
   with_reducible refine (whole_Sign.calls k a0_0 _ _ l0_1 t734 _ ?side1 ?side2 A3.out).mono ?_
   (case side1 => exact kc_ (Kd.C_below HR0_1.out HB.out))
   (case side2 => exact HC0_1.out)
   rintro e w21 ⟨rfl, hb⟩
   refine ⟨_, rfl, ?_⟩
   replace BK732 := kq_ BK732 hb
   replace BK733 := kq_ BK733 hb
   replace HB := bq_ HB hb
   (try clear hb)
   (try clear hb2)
   (try clear hk)
   (try clear hi)
   refine hK.out _ _ ⟨(blk_cell BK732.out 0).trans rfl, (blk_cell BK732.out 1).trans rfl, (blk_cell BK733.out 0).trans rfl, (blk_cell BK733.out 1).trans rfl⟩ (fun hHeld => ?_)
   clear hK K
   refine norm_ (a' := ?_) ?_ ?_
   rotate_left
   ·show Act.put _ (some 8) _ = _
    exact pt_
   refine one_ (i := 3) (N := some 10) #[true, true, true, true, false, false] rfl rfl (by kernel_rfl) (by decide) (fun K hK => ?_)
   refine gs_ Tryd.func38 #[.agg #[.bool a1_0, .slice A1_1 l1_1.length c1_1]] ?_
   with_reducible refine (whole_Sign.calls k a1_0 _ _ l1_1 t735 _ ?side1 ?side2 A4.out).mono ?_
   (case side1 => exact kc_ (Kd.C_below HR1_1.out HB.out))
   (case side2 => exact HC1_1.out)
   rintro e w22 ⟨rfl, hb⟩
   refine ⟨_, rfl, ?_⟩
   replace BK732 := kq_ BK732 hb
   replace BK733 := kq_ BK733 hb
   replace HB := bq_ HB hb
   (try clear hb)
   (try clear hb2)
   (try clear hk)
   (try clear hi)
   refine hK.out _ _ ⟨(blk_cell BK732.out 0).trans rfl, (blk_cell BK732.out 1).trans rfl, (blk_cell BK733.out 0).trans rfl, (blk_cell BK733.out 1).trans rfl⟩ (fun hHeld => ?_)
   clear hK K
   refine norm_ (a' := ?_) ?_ ?_
   rotate_left
   ·show Act.put _ (some 10) _ = _
    exact pt_
   refine pure_ (i := 4) (N := some 5) (v := ?_) (a' := ?_) #[true, true, true, true, true, false] rfl rfl (by kernel_rfl) (fun _ _ _ h => h) (Or.inl ⟨by rfl, ?_⟩) ?_ ?_
   rotate_left
   ·intro w'
    go_simp
    with_reducible rfl
   rotate_left
   ·exact pt_
   refine pure_ (i := 5) (N := some 6) (v := ?_) (a' := ?_) #[true, true, true, true, true, true] rfl rfl (by kernel_rfl) (fun _ _ _ h => h) (Or.inl ⟨by rfl, ?_⟩) ?_ ?_
   rotate_left
   ·intro w'
    go_simp
    with_reducible rfl
   rotate_left
   ·exact pt_
   refine done_ (by kernel_rfl) ?_
   have hnb23 := NB732_733.out
   have hnc23 := NB733_732.out
   obtain ⟨hcz24_0, hcz24_1, hfz24_0, hfz24_1⟩ := c2_ BK732
   obtain ⟨hcz25_0, hcz25_1, hfz25_0, hfz25_1⟩ := c2_ BK733
   try go_wp2_with (first | ((with_reducible refine gate_callee (f := 72) rfl ?_); refine gl_ (some 24) Tryd.func72 #[.slice A0_1 l0_1.length c0_1, .slice A1_1 l1_1.length c1_1] ?_; (with_reducible refine (nat_Cmp.calls k _ _ l0_1 _ _ l1_1 t736 _ ?side1 ?side2 ?side3 ?side4 A17.out).mono ?_); (case side1 => exact kc_ (Kd.C_below HR0_1.out HB.out)); (case side2 => exact HC0_1.out); (case side3 => exact kc_ (Kd.C_below HR1_1.out HB.out)); (case side4 => exact HC1_1.out); rintro e w26 ⟨rfl, hb⟩; refine ⟨_, rfl, ?_⟩; replace BK732 := kq_ BK732 hb; replace BK733 := kq_ BK733 hb; replace HB := bq_ HB hb; (try clear hb); (try clear hb2); (try clear hk); (try clear hi)))
   go_ret
   exact ⟨rf_, bw_ HB.out⟩

/-! ### whole_Same: function 26 -/
set_option maxHeartbeats 8000000 in
set_option maxRecDepth 100000 in
theorem whole_Same.calls (k : Nat) (a0_0 : Bool) (A0_1 : Option Addr) (c0_1 : Nat) (l0_1 : List Int) (a1_0 : Bool) (A1_1 : Option Addr) (c1_1 : Nat) (l1_1 : List Int) (r : Bool) (w : World) (hr0_1 : Kd.C (Kd.int .u32) w A0_1 l0_1.length l0_1) (hc0_1 : l0_1.length ≤ c0_1) (hr1_1 : Kd.C (Kd.int .u32) w A1_1 l1_1.length l1_1) (hc1_1 : l1_1.length ≤ c1_1) (h : whole_Same.f k a0_0 l0_1 a1_0 l1_1 = some r) :
  Calls Tryd.prog 26 #[.agg #[.bool a0_0, .slice A0_1 l0_1.length c0_1], .agg #[.bool a1_0, .slice A1_1 l1_1.length c1_1]] w fun e w' => e = .returned (.bool r) ∧ Below w.heap.size w w' := by
 have hu24 := Tryd.underlying24
 have HR0_1 := Aside0.mk hr0_1
 have HC0_1 := Aside0.mk hc0_1
 clear hr0_1 hc0_1
 have HR1_1 := Aside0.mk hr1_1
 have HC1_1 := Aside0.mk hc1_1
 clear hr1_1 hc1_1
 have HB := Aside0.mk (Below.refl w.heap.size w)
 have H : ((whole_Cmp.f k a0_0 l0_1 a1_0 l1_1).bind fun t739 => (some (t739 == 0))) = some r := h
 clear h
 replace H := Option.bind_eq_some_iff.mp H
 obtain ⟨t739, A30, H⟩ := H
 (try dsimp only at H)
 have A3 := Aside0.mk A30
 clear A30
 obtain rfl := Option.some.inj H
 go_enter Tryd.func26, Tryd.ntmps26
 go_wp2_with (first | ((with_reducible refine gate_dst (N := 2) rfl ?_); refine bx_ 2 #[.bool a0_0, .slice A0_1 l0_1.length c0_1] 24 ?_; intro gb737 hg w4 hbox hb; have BK737 := Aside0.mk (hbox); have GW737 := ge_ hg HB; have GE737 := ge_ hg HB; replace HB := bq_ HB hb; clear hb hbox hg) | ((with_reducible refine gate_dst (N := 3) rfl ?_); refine bx_ 3 #[.bool a1_0, .slice A1_1 l1_1.length c1_1] 24 ?_; intro gb738 hg w5 hbox hb; have BK738 := Aside0.mk (hbox); have GW738 := ge_ hg HB; have GE738 := ge_ hg HB; have NB737_738 := nb_ hg BK737; have NB738_737 := nc_ hg BK737; replace BK737 := kq_ BK737 hb; replace HB := bq_ HB hb; clear hb hbox hg; have hnb6 := NB737_738.out; have hnc6 := NB738_737.out; obtain ⟨hcz7_0, hcz7_1, hfz7_0, hfz7_1⟩ := c2_ BK737; obtain ⟨hcz8_0, hcz8_1, hfz8_0, hfz8_1⟩ := c2_ BK738) | ((with_reducible refine gate_callee (f := 55) rfl ?_); refine gl_ (some 7) Tryd.func55 #[.agg #[.bool a0_0, .slice A0_1 l0_1.length c0_1], .agg #[.bool a1_0, .slice A1_1 l1_1.length c1_1]] ?_; (with_reducible refine (whole_Cmp.calls k a0_0 _ _ l0_1 a1_0 _ _ l1_1 t739 _ ?side1 ?side2 ?side3 ?side4 A3.out).mono ?_); (case side1 => exact kc_ (Kd.C_below HR0_1.out HB.out)); (case side2 => exact HC0_1.out); (case side3 => exact kc_ (Kd.C_below HR1_1.out HB.out)); (case side4 => exact HC1_1.out); rintro e w9 ⟨rfl, hb⟩; refine ⟨_, rfl, ?_⟩; replace BK737 := kq_ BK737 hb; replace BK738 := kq_ BK738 hb; replace HB := bq_ HB hb; (try clear hb); (try clear hb2); (try clear hk); (try clear hi)))
 go_ret
 exact ⟨rf_, bw_ HB.out⟩

end Go.Proofs.YtaookeneeemfbaaDoor.PA
