-- Laid by this work's own program; Lean checks it.
import Derived.Test.YthlhogcnfaiphaaDoorPAx0
import Derived.Test.YthlhogcnfaiphaaDoorPAx2
import Derived.Test.YthlhogcnfaiphaaDoorPAx3
import Derived.Test.YthlhogcnfaiphaaDoorPAx4
namespace Go.Proofs.YthlhogcnfaiphaaDoor.PA
open Go.RowKit Go.Proofs.YthlhogcnfaiphaaDoorW.PrintWords Go.Proofs.YthlhogcnfaiphaaDoorW.PrintLast Go.Proofs.YthlhogcnfaiphaaDoorW.PrintMore
attribute [local go_sem] max2_int min2_int max_two min_two max_three min_three max_four min_four   -- for this text's walks alone
set_option linter.unusedVariables false
set_option linter.unusedSimpArgs false

attribute [local go_sem ↓ high] isSome_set_
/-! ### arith_Add: function 10 -/
set_option maxHeartbeats 8000000 in
set_option maxRecDepth 100000 in
theorem arith_Add.calls (k : Nat) (a0_0 : Int) (a0_1 : Bool) (a0_2 : Int) (a0_3 : Int) (a1_0 : Int) (a1_1 : Bool) (a1_2 : Int) (a1_3 : Int) (a2 : Bool) (r1 : Int) (r2 : Bool) (r3 : Int) (r4 : Int) (w : World) (h : arith_Add.f k a0_0 a0_1 a0_2 a0_3 a1_0 a1_1 a1_2 a1_3 a2 = some (r1, r2, r3, r4)) :
  Calls Tryd.prog 10 #[.agg #[.int .i64 a0_0, .bool a0_1, .int .u64 a0_2, .int .i64 a0_3], .agg #[.int .i64 a1_0, .bool a1_1, .int .u64 a1_2, .int .i64 a1_3], .bool a2] w fun e w' => e = .returned (.agg #[.int .i64 r1, .bool r2, .int .u64 r3, .int .i64 r4]) ∧ Below w.heap.size w w' := by
 have hu24 := Tryd.underlying24
 have HB := Aside0.mk (Below.refl w.heap.size w)
 have H : ((arith_fair.f a0_0 a0_1 a0_2 a0_3).bind fun bt196 => ((arith_fair.f a1_0 a1_1 a1_2 a1_3).bind fun bt200 => (if bt196.1 = 2 then (if bt200.1 = 2 then (arith_Add.j0 k a2 (bt196.2.1 != bt200.2.1) bt196.1 bt196.2.1 bt196.2.2.1 bt196.2.2.2 bt200.1 bt200.2.1 bt200.2.2.1 bt200.2.2.2) else (arith_Add.j0 k a2 false bt196.1 bt196.2.1 bt196.2.2.1 bt196.2.2.2 bt200.1 bt200.2.1 bt200.2.2.1 bt200.2.2.2)) else (arith_Add.j0 k a2 false bt196.1 bt196.2.1 bt196.2.2.1 bt196.2.2.2 bt200.1 bt200.2.1 bt200.2.2.1 bt200.2.2.2)))) = some (r1, r2, r3, r4) := h
 clear h
 replace H := Option.bind_eq_some_iff.mp H
 obtain ⟨⟨t196, t197, t198, t199⟩, A40, H⟩ := H
 (try dsimp only at H)
 have A4 := Aside0.mk A40
 clear A40
 replace H := Option.bind_eq_some_iff.mp H
 obtain ⟨⟨t200, t201, t202, t203⟩, A50, H⟩ := H
 (try dsimp only at H)
 have A5 := Aside0.mk A50
 clear A50
 have HC6 := Aside0.mk H
 clear H
 go_enter Tryd.func10, Tryd.ntmps10
 try go_wp2_with (first | ((with_reducible refine gate_dst (N := 3) rfl ?_); refine bx_ 3 #[.int .i64 a0_0, .bool a0_1, .int .u64 a0_2, .int .i64 a0_3] 24 ?_; intro gb193 hg w7 hbox hb; have BK193 := Aside0.mk (hbox); have GW193 := ge_ hg HB; have GE193 := ge_ hg HB; replace HB := bq_ HB hb; clear hb hbox hg) | ((with_reducible refine gate_dst (N := 4) rfl ?_); refine bx_ 4 #[.int .i64 a1_0, .bool a1_1, .int .u64 a1_2, .int .i64 a1_3] 24 ?_; intro gb194 hg w8 hbox hb; have BK194 := Aside0.mk (hbox); have GW194 := ge_ hg HB; have GE194 := ge_ hg HB; have NB193_194 := nb_ hg BK193; have NB194_193 := nc_ hg BK193; replace BK193 := kq_ BK193 hb; replace HB := bq_ HB hb; clear hb hbox hg) | ((with_reducible refine gate_dst (N := 6) rfl ?_); refine bx_ 6 #[.int .i64 0, .bool false, .int .u64 0, .int .i64 0] 24 ?_; intro gb195 hg w9 hbox hb; have BK195 := Aside0.mk (hbox); have GW195 := ge_ hg HB; have GE195 := ge_ hg HB; have NB193_195 := nb_ hg BK193; have NB195_193 := nc_ hg BK193; have NB194_195 := nb_ hg BK194; have NB195_194 := nc_ hg BK194; replace BK193 := kq_ BK193 hb; replace BK194 := kq_ BK194 hb; replace HB := bq_ HB hb; clear hb hbox hg))
 replace BK193 := Aside0.mk (blk_drew BK193.out)
 replace BK194 := Aside0.mk (blk_drew BK194.out)
 replace BK195 := Aside0.mk (blk_drew BK195.out)
 replace HB := Aside0.mk (below_drew1 HB.out)
 refine start_ (n := 6) (S := fun w' => w'.cell? ⟨gb193, 0, none⟩ = some (.int .i64 a0_0) ∧ w'.cell? ⟨gb193, 1, none⟩ = some (.bool a0_1) ∧ w'.cell? ⟨gb193, 2, none⟩ = some (.int .u64 a0_2) ∧ w'.cell? ⟨gb193, 3, none⟩ = some (.int .i64 a0_3) ∧ w'.cell? ⟨gb194, 0, none⟩ = some (.int .i64 a1_0) ∧ w'.cell? ⟨gb194, 1, none⟩ = some (.bool a1_1) ∧ w'.cell? ⟨gb194, 2, none⟩ = some (.int .u64 a1_2) ∧ w'.cell? ⟨gb194, 3, none⟩ = some (.int .i64 a1_3)) (ds := [4, 5]) #[false, false, false, false, false, false] (by kernel_rfl) rfl rfl ⟨(blk_cell BK193.out 0).trans rfl, (blk_cell BK193.out 1).trans rfl, (blk_cell BK193.out 2).trans rfl, (blk_cell BK193.out 3).trans rfl, (blk_cell BK194.out 0).trans rfl, (blk_cell BK194.out 1).trans rfl, (blk_cell BK194.out 2).trans rfl, (blk_cell BK194.out 3).trans rfl⟩ (fun hHeld => ?_)
 generalize w9.drew = w10 at BK193 BK194 BK195 HB hHeld ⊢
 refine take_ (i := 0) (N := some 7) (v := ?_) (a' := ?_) #[true, false, false, false, false, false] rfl rfl (by kernel_rfl) (fun _ _ _ h => h) (Or.inl ⟨by rfl, ?_⟩) hHeld ?_ ?_
 rotate_left
 ·rintro w' ⟨s0, s1, s2, s3, s4, s5, s6, s7⟩
  go_simp
  with_reducible rfl
 rotate_left
 ·exact pt_
 refine take_ (i := 2) (N := some 9) (v := ?_) (a' := ?_) #[true, false, true, false, false, false] rfl rfl (by kernel_rfl) (fun _ _ _ h => h) (Or.inl ⟨by rfl, ?_⟩) hHeld ?_ ?_
 rotate_left
 ·rintro w' ⟨s0, s1, s2, s3, s4, s5, s6, s7⟩
  go_simp
  with_reducible rfl
 rotate_left
 ·exact pt_
 refine one_ (i := 1) (N := some 8) #[true, true, true, false, false, false] rfl rfl (by kernel_rfl) (by decide) (fun K hK => ?_)
 refine gs_ Tryd.func23 #[.agg #[.int .i64 a0_0, .bool a0_1, .int .u64 a0_2, .int .i64 a0_3]] ?_
 with_reducible refine (arith_fair.calls a0_0 a0_1 a0_2 a0_3 t196 t197 t198 t199 _ A4.out).mono ?_
 rintro e w11 ⟨rfl, hb⟩
 refine ⟨_, rfl, ?_⟩
 replace BK193 := kq_ BK193 hb
 replace BK194 := kq_ BK194 hb
 replace BK195 := kq_ BK195 hb
 replace HB := bq_ HB hb
 (try clear hb)
 (try clear hb2)
 (try clear hk)
 (try clear hi)
 refine hK.out _ _ ⟨(blk_cell BK193.out 0).trans rfl, (blk_cell BK193.out 1).trans rfl, (blk_cell BK193.out 2).trans rfl, (blk_cell BK193.out 3).trans rfl, (blk_cell BK194.out 0).trans rfl, (blk_cell BK194.out 1).trans rfl, (blk_cell BK194.out 2).trans rfl, (blk_cell BK194.out 3).trans rfl⟩ (fun hHeld => ?_)
 clear hK K
 refine norm_ (a' := ?_) ?_ ?_
 rotate_left
 ·show Act.put _ (some 8) _ = _
  exact pt_
 refine one_ (i := 3) (N := some 10) #[true, true, true, true, false, false] rfl rfl (by kernel_rfl) (by decide) (fun K hK => ?_)
 refine gs_ Tryd.func23 #[.agg #[.int .i64 a1_0, .bool a1_1, .int .u64 a1_2, .int .i64 a1_3]] ?_
 with_reducible refine (arith_fair.calls a1_0 a1_1 a1_2 a1_3 t200 t201 t202 t203 _ A5.out).mono ?_
 rintro e w12 ⟨rfl, hb⟩
 refine ⟨_, rfl, ?_⟩
 replace BK193 := kq_ BK193 hb
 replace BK194 := kq_ BK194 hb
 replace BK195 := kq_ BK195 hb
 replace HB := bq_ HB hb
 (try clear hb)
 (try clear hb2)
 (try clear hk)
 (try clear hi)
 refine hK.out _ _ ⟨(blk_cell BK193.out 0).trans rfl, (blk_cell BK193.out 1).trans rfl, (blk_cell BK193.out 2).trans rfl, (blk_cell BK193.out 3).trans rfl, (blk_cell BK194.out 0).trans rfl, (blk_cell BK194.out 1).trans rfl, (blk_cell BK194.out 2).trans rfl, (blk_cell BK194.out 3).trans rfl⟩ (fun hHeld => ?_)
 clear hK K
 refine norm_ (a' := ?_) ?_ ?_
 rotate_left
 ·show Act.put _ (some 10) _ = _
  exact pt_
 refine last_ (i := 4) (N := none) #[true, true, true, true, true, false] rfl rfl (by kernel_rfl) (by decide) (fun K hK => ?_)
 have hs13 : w12.cell? ⟨gb193, 0, none⟩ = some (.int .i64 a0_0) := (blk_cell BK193.out 0).trans rfl
 have hfs13 := fz_ BK193 0
 have hns13_1 := NB194_193.out
 have hns13_2 := NB195_193.out
 have hms13_1 := NB193_194.out
 have hms13_2 := NB193_195.out
 have hs14 : w12.cell? ⟨gb193, 1, none⟩ = some (.bool a0_1) := (blk_cell BK193.out 1).trans rfl
 have hfs14 := fz_ BK193 1
 have hns14_1 := NB194_193.out
 have hns14_2 := NB195_193.out
 have hms14_1 := NB193_194.out
 have hms14_2 := NB193_195.out
 have hs15 : w12.cell? ⟨gb193, 2, none⟩ = some (.int .u64 a0_2) := (blk_cell BK193.out 2).trans rfl
 have hfs15 := fz_ BK193 2
 have hns15_1 := NB194_193.out
 have hns15_2 := NB195_193.out
 have hms15_1 := NB193_194.out
 have hms15_2 := NB193_195.out
 have hs16 : w12.cell? ⟨gb193, 3, none⟩ = some (.int .i64 a0_3) := (blk_cell BK193.out 3).trans rfl
 have hfs16 := fz_ BK193 3
 have hns16_1 := NB194_193.out
 have hns16_2 := NB195_193.out
 have hms16_1 := NB193_194.out
 have hms16_2 := NB193_195.out
 refine skip_ (w1 := ?_) (by rfl) rfl ?_ ?_
 rotate_left
 ·go_simp
  rfl
 refine hK.out _ _ ?_
 clear hK K
 refine last_ (i := 5) (N := none) #[true, true, true, true, true, true] rfl rfl (by kernel_rfl) (by decide) (fun K hK => ?_)
 have hs17 : w12.cell? ⟨gb194, 0, none⟩ = some (.int .i64 a1_0) := (blk_cell BK194.out 0).trans rfl
 have hfs17 := fz_ BK194 0
 have hns17_0 := NB193_194.out
 have hns17_2 := NB195_194.out
 have hms17_0 := NB194_193.out
 have hms17_2 := NB194_195.out
 have hs18 : w12.cell? ⟨gb194, 1, none⟩ = some (.bool a1_1) := (blk_cell BK194.out 1).trans rfl
 have hfs18 := fz_ BK194 1
 have hns18_0 := NB193_194.out
 have hns18_2 := NB195_194.out
 have hms18_0 := NB194_193.out
 have hms18_2 := NB194_195.out
 have hs19 : w12.cell? ⟨gb194, 2, none⟩ = some (.int .u64 a1_2) := (blk_cell BK194.out 2).trans rfl
 have hfs19 := fz_ BK194 2
 have hns19_0 := NB193_194.out
 have hns19_2 := NB195_194.out
 have hms19_0 := NB194_193.out
 have hms19_2 := NB194_195.out
 have hs20 : w12.cell? ⟨gb194, 3, none⟩ = some (.int .i64 a1_3) := (blk_cell BK194.out 3).trans rfl
 have hfs20 := fz_ BK194 3
 have hns20_0 := NB193_194.out
 have hns20_2 := NB195_194.out
 have hms20_0 := NB194_193.out
 have hms20_2 := NB194_195.out
 refine skip_ (w1 := ?_) (by rfl) rfl ?_ ?_
 rotate_left
 ·go_simp
  rfl
 refine hK.out _ _ ?_
 clear hK K
 refine done_ (by kernel_rfl) ?_
 go_upto_region 2 with (fail)
 go_cut [11] (fun v11 wc => ∃ (kq : Nat) (x11_5 : Bool), v11 = .bool x11_5 ∧ Aside0 (arith_Add.j0 kq a2 x11_5 t196 t197 t198 t199 t200 t201 t202 t203 = some (r1, r2, r3, r4)) ∧ Aside0 (kq ≤ k) ∧ Aside0 (wc.heap[gb193]? = some (.cells #[.int .i64 t196, .bool t197, .int .u64 t198, .int .i64 t199] 24 (0, 0))) ∧ Aside0 (wc.heap[gb194]? = some (.cells #[.int .i64 t200, .bool t201, .int .u64 t202, .int .i64 t203] 24 (0, 0))) ∧ Aside0 (wc.heap[gb195]? = some (.cells #[.int .i64 0, .bool false, .int .u64 0, .int .i64 0] 24 (0, 0))) ∧ Aside0 (Below w.heap.size w wc))
 case first =>
  have H := HC6.out
  clear HC6
  by_cases c21 : t196 = 2
  ·rw [if_pos c21] at H
   have c21b0 : (t196 == 2) = true := beq_iff_eq.mpr c21
   have c21b1 : (t196 != 2) = false := bne_eq_false_iff_eq.mpr c21
   clear c21
   (first | rw [c21b0] | (simp only [i64_w, i32_w]; rw [c21b0]) | skip)
   by_cases c22 : t200 = 2
   ·rw [if_pos c22] at H
    have c22b0 : (t200 == 2) = true := beq_iff_eq.mpr c22
    have c22b1 : (t200 != 2) = false := bne_eq_false_iff_eq.mpr c22
    clear c22
    have H' := Aside0.mk H
    clear H
    have hnb23 := NB193_194.out
    have hnc23 := NB194_193.out
    have hnb24 := NB193_195.out
    have hnc24 := NB195_193.out
    obtain ⟨hcz25_0, hcz25_1, hcz25_2, hcz25_3, hfz25_0, hfz25_1, hfz25_2, hfz25_3⟩ := c4_ BK193
    have hnb26 := NB194_195.out
    have hnc26 := NB195_194.out
    obtain ⟨hcz27_0, hcz27_1, hcz27_2, hcz27_3, hfz27_0, hfz27_1, hfz27_2, hfz27_3⟩ := c4_ BK194
    go_wp2
    go_meet
    case rel => exact ⟨_, ((t197 != t201)), (by first | rfl | (simp; done) | (simp [*]; done)), H', ⟨by first | omega | exact Nat.le_refl _⟩, ⟨by refine kb_ ?_; refine bf_ NB193_194 ?_; refine bf_ NB193_194 ?_; refine bf_ NB193_194 ?_; refine bf_ NB193_194 ?_; refine bp_ #[.int .i64 t196, .bool t197, .int .u64 t198, .int .i64 a0_3] 3 ?_; refine bp_ #[.int .i64 t196, .bool t197, .int .u64 a0_2, .int .i64 a0_3] 2 ?_; refine bp_ #[.int .i64 t196, .bool a0_1, .int .u64 a0_2, .int .i64 a0_3] 1 ?_; refine bp_ #[.int .i64 a0_0, .bool a0_1, .int .u64 a0_2, .int .i64 a0_3] 0 ?_; exact BK193.out⟩, ⟨by refine kb_ ?_; refine bp_ #[.int .i64 t200, .bool t201, .int .u64 t202, .int .i64 a1_3] 3 ?_; refine bp_ #[.int .i64 t200, .bool t201, .int .u64 a1_2, .int .i64 a1_3] 2 ?_; refine bp_ #[.int .i64 t200, .bool a1_1, .int .u64 a1_2, .int .i64 a1_3] 1 ?_; refine bp_ #[.int .i64 a1_0, .bool a1_1, .int .u64 a1_2, .int .i64 a1_3] 0 ?_; refine bf_ NB194_193 ?_; refine bf_ NB194_193 ?_; refine bf_ NB194_193 ?_; refine bf_ NB194_193 ?_; exact BK194.out⟩, ⟨by refine kb_ ?_; refine bf_ NB195_194 ?_; refine bf_ NB195_194 ?_; refine bf_ NB195_194 ?_; refine bf_ NB195_194 ?_; refine bf_ NB195_193 ?_; refine bf_ NB195_193 ?_; refine bf_ NB195_193 ?_; refine bf_ NB195_193 ?_; exact BK195.out⟩, ⟨bw_ HB.out⟩⟩
   ·rw [if_neg c22] at H
    have c22b0 : (t200 == 2) = false := beq_eq_false_iff_ne.mpr c22
    have c22b1 : (t200 != 2) = true := bne_iff_ne.mpr c22
    have H' := Aside0.mk H
    clear H
    have hnb28 := NB193_194.out
    have hnc28 := NB194_193.out
    have hnb29 := NB193_195.out
    have hnc29 := NB195_193.out
    obtain ⟨hcz30_0, hcz30_1, hcz30_2, hcz30_3, hfz30_0, hfz30_1, hfz30_2, hfz30_3⟩ := c4_ BK193
    have hnb31 := NB194_195.out
    have hnc31 := NB195_194.out
    obtain ⟨hcz32_0, hcz32_1, hcz32_2, hcz32_3, hfz32_0, hfz32_1, hfz32_2, hfz32_3⟩ := c4_ BK194
    go_wp2
    go_meet
    case rel => exact ⟨_, (false), (by first | rfl | (simp; done) | (simp [*]; done)), H', ⟨by first | omega | exact Nat.le_refl _⟩, ⟨by refine kb_ ?_; refine bf_ NB193_194 ?_; refine bf_ NB193_194 ?_; refine bf_ NB193_194 ?_; refine bf_ NB193_194 ?_; refine bp_ #[.int .i64 t196, .bool t197, .int .u64 t198, .int .i64 a0_3] 3 ?_; refine bp_ #[.int .i64 t196, .bool t197, .int .u64 a0_2, .int .i64 a0_3] 2 ?_; refine bp_ #[.int .i64 t196, .bool a0_1, .int .u64 a0_2, .int .i64 a0_3] 1 ?_; refine bp_ #[.int .i64 a0_0, .bool a0_1, .int .u64 a0_2, .int .i64 a0_3] 0 ?_; exact BK193.out⟩, ⟨by refine kb_ ?_; refine bp_ #[.int .i64 t200, .bool t201, .int .u64 t202, .int .i64 a1_3] 3 ?_; refine bp_ #[.int .i64 t200, .bool t201, .int .u64 a1_2, .int .i64 a1_3] 2 ?_; refine bp_ #[.int .i64 t200, .bool a1_1, .int .u64 a1_2, .int .i64 a1_3] 1 ?_; refine bp_ #[.int .i64 a1_0, .bool a1_1, .int .u64 a1_2, .int .i64 a1_3] 0 ?_; refine bf_ NB194_193 ?_; refine bf_ NB194_193 ?_; refine bf_ NB194_193 ?_; refine bf_ NB194_193 ?_; exact BK194.out⟩, ⟨by refine kb_ ?_; refine bf_ NB195_194 ?_; refine bf_ NB195_194 ?_; refine bf_ NB195_194 ?_; refine bf_ NB195_194 ?_; refine bf_ NB195_193 ?_; refine bf_ NB195_193 ?_; refine bf_ NB195_193 ?_; refine bf_ NB195_193 ?_; exact BK195.out⟩, ⟨bw_ HB.out⟩⟩
  ·rw [if_neg c21] at H
   have c21b0 : (t196 == 2) = false := beq_eq_false_iff_ne.mpr c21
   have c21b1 : (t196 != 2) = true := bne_iff_ne.mpr c21
   (first | rw [c21b0] | (simp only [i64_w, i32_w]; rw [c21b0]) | skip)
   have H' := Aside0.mk H
   clear H
   have hnb33 := NB193_194.out
   have hnc33 := NB194_193.out
   have hnb34 := NB193_195.out
   have hnc34 := NB195_193.out
   obtain ⟨hcz35_0, hcz35_1, hcz35_2, hcz35_3, hfz35_0, hfz35_1, hfz35_2, hfz35_3⟩ := c4_ BK193
   go_wp2
   go_meet
   case rel => exact ⟨_, (false), (by first | rfl | (simp; done) | (simp [*]; done)), H', ⟨by first | omega | exact Nat.le_refl _⟩, ⟨by refine kb_ ?_; refine bf_ NB193_194 ?_; refine bf_ NB193_194 ?_; refine bf_ NB193_194 ?_; refine bf_ NB193_194 ?_; refine bp_ #[.int .i64 t196, .bool t197, .int .u64 t198, .int .i64 a0_3] 3 ?_; refine bp_ #[.int .i64 t196, .bool t197, .int .u64 a0_2, .int .i64 a0_3] 2 ?_; refine bp_ #[.int .i64 t196, .bool a0_1, .int .u64 a0_2, .int .i64 a0_3] 1 ?_; refine bp_ #[.int .i64 a0_0, .bool a0_1, .int .u64 a0_2, .int .i64 a0_3] 0 ?_; exact BK193.out⟩, ⟨by refine kb_ ?_; refine bp_ #[.int .i64 t200, .bool t201, .int .u64 t202, .int .i64 a1_3] 3 ?_; refine bp_ #[.int .i64 t200, .bool t201, .int .u64 a1_2, .int .i64 a1_3] 2 ?_; refine bp_ #[.int .i64 t200, .bool a1_1, .int .u64 a1_2, .int .i64 a1_3] 1 ?_; refine bp_ #[.int .i64 a1_0, .bool a1_1, .int .u64 a1_2, .int .i64 a1_3] 0 ?_; refine bf_ NB194_193 ?_; refine bf_ NB194_193 ?_; refine bf_ NB194_193 ?_; refine bf_ NB194_193 ?_; exact BK194.out⟩, ⟨by refine kb_ ?_; refine bf_ NB195_194 ?_; refine bf_ NB195_194 ?_; refine bf_ NB195_194 ?_; refine bf_ NB195_194 ?_; refine bf_ NB195_193 ?_; refine bf_ NB195_193 ?_; refine bf_ NB195_193 ?_; refine bf_ NB195_193 ?_; exact BK195.out⟩, ⟨bw_ HB.out⟩⟩
 case rest =>
  clear HC6
  try clear c1
  try clear c2
  try clear p2
  try clear c3
  try clear c10
  try clear c21
  try clear c21b0
  try clear c21b1
  try clear c22
  try clear c22b0
  try clear c22b1
  try clear c23
  try clear c24
  try clear c26
  try clear c28
  try clear c29
  try clear c31
  try clear c33
  try clear c34
  try clear hcz25_0 hcz25_1 hcz25_2 hcz25_3
  try clear hcz27_0 hcz27_1 hcz27_2 hcz27_3
  try clear hcz30_0 hcz30_1 hcz30_2 hcz30_3
  try clear hcz32_0 hcz32_1 hcz32_2 hcz32_3
  try clear hcz35_0 hcz35_1 hcz35_2 hcz35_3
  try clear hfz25_0 hfz25_1 hfz25_2 hfz25_3
  try clear hfz27_0 hfz27_1 hfz27_2 hfz27_3
  try clear hfz30_0 hfz30_1 hfz30_2 hfz30_3
  try clear hfz32_0 hfz32_1 hfz32_2 hfz32_3
  try clear hfz35_0 hfz35_1 hfz35_2 hfz35_3
  obtain ⟨kq, x11_5, rfl, HA, HJ5, BK193, BK194, BK195, HB⟩ := hcut
  cases kq with
  | zero => exact absurd HA.out (by simp [arith_Add.j0])
  | succ kj5 =>
   have H := HA.out
   clear HA
   simp only [arith_Add.j0] at H
   by_cases c36 : x11_5 = true
   ·subst c36
    have H1 : ((num_Infinite.f (!a2)).bind fun bt204 => (some (bt204.1, bt204.2.1, bt204.2.2.1, bt204.2.2.2))) = some (r1, r2, r3, r4) := by rw [if_pos rfl] at H; exact H
    clear H
    have H := H1
    clear H1
    replace H := Option.bind_eq_some_iff.mp H
    obtain ⟨⟨t204, t205, t206, t207⟩, A370, H⟩ := H
    (try dsimp only at H)
    have A37 := Aside0.mk A370
    clear A370
    simp only [Option.some.injEq, Prod.mk.injEq] at H
    obtain ⟨rfl, rfl, rfl, rfl⟩ := H
    go_wp2_with (first | ((with_reducible refine gate_callee (f := 14) rfl ?_); refine gl_ (some 29) Tryd.func14 #[.bool (!a2)] ?_; (with_reducible refine (num_Infinite.calls (!a2) t204 t205 t206 t207 _ A37.out).mono ?_); rintro e w38 ⟨rfl, hb⟩; refine ⟨_, rfl, ?_⟩; replace BK193 := kq_ BK193 hb; replace BK194 := kq_ BK194 hb; replace BK195 := kq_ BK195 hb; replace HB := bq_ HB hb; (try clear hb); (try clear hb2); (try clear hk); (try clear hi); have hnb39 := NB195_193.out; have hnc39 := NB193_195.out; have hnb40 := NB195_194.out; have hnc40 := NB194_195.out; obtain ⟨hcz41_0, hcz41_1, hcz41_2, hcz41_3, hfz41_0, hfz41_1, hfz41_2, hfz41_3⟩ := c4_ BK195))
    refine bodyPost_ret (results_cell_row rfl _ _ gb195 24 #[.int .i64 t204, .bool t205, .int .u64 t206, .int .i64 t207] (0, 0) _ rfl (by refine kb_ ?_; refine bp_ #[.int .i64 t204, .bool t205, .int .u64 t206, .int .i64 0] 3 ?_; refine bp_ #[.int .i64 t204, .bool t205, .int .u64 0, .int .i64 0] 2 ?_; refine bp_ #[.int .i64 t204, .bool false, .int .u64 0, .int .i64 0] 1 ?_; refine bp_ #[.int .i64 0, .bool false, .int .u64 0, .int .i64 0] 0 ?_; exact BK195.out) Tryd.underlying24 rfl (by kernel_rfl)) rfl ?_
    exact ⟨rf_, bw_ HB.out⟩
   ·replace c36 := Bool.eq_false_iff.mpr c36
    subst c36
    have H1 : (if t196 = 2 then (arith_Add.j1 kj5 a2 true t196 t197 t198 t199 t200 t201 t202 t203) else (arith_Add.j1 kj5 a2 (t200 == 0) t196 t197 t198 t199 t200 t201 t202 t203)) = some (r1, r2, r3, r4) := by rw [if_neg (show ¬ (false = true) by decide)] at H; exact H
    clear H
    have H := H1
    clear H1
    have HC42 := Aside0.mk H
    clear H
    go_upto_region 4 with (fail)
    go_cut [30] (fun v30 wc => ∃ (kq : Nat) (x30_41 : Bool), v30 = .bool x30_41 ∧ Aside0 (arith_Add.j1 kq a2 x30_41 t196 t197 t198 t199 t200 t201 t202 t203 = some (r1, r2, r3, r4)) ∧ Aside0 (kq ≤ kj5) ∧ Aside0 (wc.heap[gb193]? = some (.cells #[.int .i64 t196, .bool t197, .int .u64 t198, .int .i64 t199] 24 (0, 0))) ∧ Aside0 (wc.heap[gb194]? = some (.cells #[.int .i64 t200, .bool t201, .int .u64 t202, .int .i64 t203] 24 (0, 0))) ∧ Aside0 (wc.heap[gb195]? = some (.cells #[.int .i64 0, .bool false, .int .u64 0, .int .i64 0] 24 (0, 0))) ∧ Aside0 (Below w.heap.size w wc))
    case first =>
     have H := HC42.out
     clear HC42
     by_cases c43 : t196 = 2
     ·rw [if_pos c43] at H
      have c43b0 : (t196 == 2) = true := beq_iff_eq.mpr c43
      have c43b1 : (t196 != 2) = false := bne_eq_false_iff_eq.mpr c43
      clear c43
      (first | rw [c43b0] | (simp only [i64_w, i32_w]; rw [c43b0]) | skip)
      have H' := Aside0.mk H
      clear H
      have hnb44 := NB193_194.out
      have hnc44 := NB194_193.out
      have hnb45 := NB193_195.out
      have hnc45 := NB195_193.out
      obtain ⟨hcz46_0, hcz46_1, hcz46_2, hcz46_3, hfz46_0, hfz46_1, hfz46_2, hfz46_3⟩ := c4_ BK193
      go_wp2
      go_meet
      case rel => exact ⟨_, (true), (by first | rfl | (simp; done) | (simp [*]; done)), H', ⟨by have := HJ5.out; first | omega | exact Nat.le_refl _⟩, ⟨kb_ BK193.out⟩, ⟨kb_ BK194.out⟩, ⟨kb_ BK195.out⟩, ⟨bw_ HB.out⟩⟩
     ·rw [if_neg c43] at H
      have c43b0 : (t196 == 2) = false := beq_eq_false_iff_ne.mpr c43
      have c43b1 : (t196 != 2) = true := bne_iff_ne.mpr c43
      (first | rw [c43b0] | (simp only [i64_w, i32_w]; rw [c43b0]) | skip)
      have H' := Aside0.mk H
      clear H
      have hnb47 := NB193_194.out
      have hnc47 := NB194_193.out
      have hnb48 := NB193_195.out
      have hnc48 := NB195_193.out
      obtain ⟨hcz49_0, hcz49_1, hcz49_2, hcz49_3, hfz49_0, hfz49_1, hfz49_2, hfz49_3⟩ := c4_ BK193
      have hnb50 := NB194_195.out
      have hnc50 := NB195_194.out
      obtain ⟨hcz51_0, hcz51_1, hcz51_2, hcz51_3, hfz51_0, hfz51_1, hfz51_2, hfz51_3⟩ := c4_ BK194
      go_wp2
      go_meet
      case rel => exact ⟨_, ((t200 == 0)), (by first | rfl | (simp; done) | (simp [*]; done)), H', ⟨by have := HJ5.out; first | omega | exact Nat.le_refl _⟩, ⟨kb_ BK193.out⟩, ⟨kb_ BK194.out⟩, ⟨kb_ BK195.out⟩, ⟨bw_ HB.out⟩⟩
    case rest =>
     clear HC42
     try clear c1
     try clear c2
     try clear p2
     try clear c3
     try clear c4
     try clear c5
     try clear c10
     try clear c14
     try clear c21
     try clear c21b0
     try clear c21b1
     try clear c22
     try clear c22b0
     try clear c22b1
     try clear c23
     try clear c24
     try clear c26
     try clear c28
     try clear c29
     try clear c31
     try clear c33
     try clear c34
     try clear c36
     try clear c39
     try clear c40
     try clear c43
     try clear c43b0
     try clear c43b1
     try clear c44
     try clear c45
     try clear c47
     try clear c48
     try clear c50
     try clear hcz25_0 hcz25_1 hcz25_2 hcz25_3
     try clear hcz27_0 hcz27_1 hcz27_2 hcz27_3
     try clear hcz30_0 hcz30_1 hcz30_2 hcz30_3
     try clear hcz32_0 hcz32_1 hcz32_2 hcz32_3
     try clear hcz35_0 hcz35_1 hcz35_2 hcz35_3
     try clear hcz41_0 hcz41_1 hcz41_2 hcz41_3
     try clear hcz46_0 hcz46_1 hcz46_2 hcz46_3
     try clear hcz49_0 hcz49_1 hcz49_2 hcz49_3
     try clear hcz51_0 hcz51_1 hcz51_2 hcz51_3
     try clear hfz25_0 hfz25_1 hfz25_2 hfz25_3
     try clear hfz27_0 hfz27_1 hfz27_2 hfz27_3
     try clear hfz30_0 hfz30_1 hfz30_2 hfz30_3
     try clear hfz32_0 hfz32_1 hfz32_2 hfz32_3
     try clear hfz35_0 hfz35_1 hfz35_2 hfz35_3
     try clear hfz41_0 hfz41_1 hfz41_2 hfz41_3
     try clear hfz46_0 hfz46_1 hfz46_2 hfz46_3
     try clear hfz49_0 hfz49_1 hfz49_2 hfz49_3
     try clear hfz51_0 hfz51_1 hfz51_2 hfz51_3
     try clear p2
     obtain ⟨kq, x30_41, rfl, HA, HJ41, BK193, BK194, BK195, HB⟩ := hcut
     cases kq with
     | zero => exact absurd HA.out (by simp [arith_Add.j1])
     | succ kj41 =>
      have H := HA.out
      clear HA
      simp only [arith_Add.j1] at H
      by_cases c52 : x30_41 = true
      ·subst c52
       have H1 : (some (t196, t197, t198, t199)) = some (r1, r2, r3, r4) := by rw [if_pos rfl] at H; exact H
       clear H
       have H := H1
       clear H1
       simp only [Option.some.injEq, Prod.mk.injEq] at H
       obtain ⟨rfl, rfl, rfl, rfl⟩ := H
       have hnb53 := NB193_194.out
       have hnc53 := NB194_193.out
       have hnb54 := NB193_195.out
       have hnc54 := NB195_193.out
       obtain ⟨hcz55_0, hcz55_1, hcz55_2, hcz55_3, hfz55_0, hfz55_1, hfz55_2, hfz55_3⟩ := c4_ BK193
       have hnb56 := NB195_194.out
       have hnc56 := NB194_195.out
       obtain ⟨hcz57_0, hcz57_1, hcz57_2, hcz57_3, hfz57_0, hfz57_1, hfz57_2, hfz57_3⟩ := c4_ BK195
       go_wp2
       refine bodyPost_ret (results_cell_row rfl _ _ gb195 24 #[.int .i64 t196, .bool t197, .int .u64 t198, .int .i64 t199] (0, 0) _ rfl (by refine kb_ ?_; refine bp_ #[.int .i64 t196, .bool t197, .int .u64 t198, .int .i64 0] 3 ?_; refine bp_ #[.int .i64 t196, .bool t197, .int .u64 0, .int .i64 0] 2 ?_; refine bp_ #[.int .i64 t196, .bool false, .int .u64 0, .int .i64 0] 1 ?_; refine bp_ #[.int .i64 0, .bool false, .int .u64 0, .int .i64 0] 0 ?_; exact BK195.out) Tryd.underlying24 rfl (by kernel_rfl)) rfl ?_
       exact ⟨rf_, bw_ HB.out⟩
      ·replace c52 := Bool.eq_false_iff.mpr c52
       subst c52
       have H1 : (if t200 = 2 then (some (t200, t201, t202, t203)) else (if t196 = 0 then (some (t200, t201, t202, t203)) else (if t203 > t199 then (arith_Add.j2 kj41 a2 true t196 t197 t198 t199 t200 t201 t202 t203) else (if t203 = t199 then (arith_Add.j2 kj41 a2 (decide (t202 > t198)) t196 t197 t198 t199 t200 t201 t202 t203) else (arith_Add.j2 kj41 a2 false t196 t197 t198 t199 t200 t201 t202 t203))))) = some (r1, r2, r3, r4) := by rw [if_neg (show ¬ (false = true) by decide)] at H; exact H
       clear H
       have H := H1
       clear H1
       by_cases c58 : t200 = 2
       ·rw [if_pos c58] at H
        have c58b0 : (t200 == 2) = true := beq_iff_eq.mpr c58
        have c58b1 : (t200 != 2) = false := bne_eq_false_iff_eq.mpr c58
        clear c58
        simp only [Option.some.injEq, Prod.mk.injEq] at H
        obtain ⟨rfl, rfl, rfl, rfl⟩ := H
        have hnb59 := NB194_193.out
        have hnc59 := NB193_194.out
        have hnb60 := NB194_195.out
        have hnc60 := NB195_194.out
        obtain ⟨hcz61_0, hcz61_1, hcz61_2, hcz61_3, hfz61_0, hfz61_1, hfz61_2, hfz61_3⟩ := c4_ BK194
        have hnb62 := NB195_193.out
        have hnc62 := NB193_195.out
        obtain ⟨hcz63_0, hcz63_1, hcz63_2, hcz63_3, hfz63_0, hfz63_1, hfz63_2, hfz63_3⟩ := c4_ BK195
        go_wp2
        refine bodyPost_ret (results_cell_row rfl _ _ gb195 24 #[.int .i64 t200, .bool t201, .int .u64 t202, .int .i64 t203] (0, 0) _ rfl (by refine kb_ ?_; refine bp_ #[.int .i64 t200, .bool t201, .int .u64 t202, .int .i64 0] 3 ?_; refine bp_ #[.int .i64 t200, .bool t201, .int .u64 0, .int .i64 0] 2 ?_; refine bp_ #[.int .i64 t200, .bool false, .int .u64 0, .int .i64 0] 1 ?_; refine bp_ #[.int .i64 0, .bool false, .int .u64 0, .int .i64 0] 0 ?_; exact BK195.out) Tryd.underlying24 rfl (by kernel_rfl)) rfl ?_
        exact ⟨rf_, bw_ HB.out⟩
       ·rw [if_neg c58] at H
        have c58b0 : (t200 == 2) = false := beq_eq_false_iff_ne.mpr c58
        have c58b1 : (t200 != 2) = true := bne_iff_ne.mpr c58
        by_cases c64 : t196 = 0
        ·rw [if_pos c64] at H
         have c64b0 : (t196 == 0) = true := beq_iff_eq.mpr c64
         have c64b1 : (t196 != 0) = false := bne_eq_false_iff_eq.mpr c64
         clear c64
         simp only [Option.some.injEq, Prod.mk.injEq] at H
         obtain ⟨rfl, rfl, rfl, rfl⟩ := H
         have hnb65 := NB194_193.out
         have hnc65 := NB193_194.out
         have hnb66 := NB194_195.out
         have hnc66 := NB195_194.out
         obtain ⟨hcz67_0, hcz67_1, hcz67_2, hcz67_3, hfz67_0, hfz67_1, hfz67_2, hfz67_3⟩ := c4_ BK194
         have hnb68 := NB193_195.out
         have hnc68 := NB195_193.out
         obtain ⟨hcz69_0, hcz69_1, hcz69_2, hcz69_3, hfz69_0, hfz69_1, hfz69_2, hfz69_3⟩ := c4_ BK193
         obtain ⟨hcz70_0, hcz70_1, hcz70_2, hcz70_3, hfz70_0, hfz70_1, hfz70_2, hfz70_3⟩ := c4_ BK195
         go_wp2
         refine bodyPost_ret (results_cell_row rfl _ _ gb195 24 #[.int .i64 t200, .bool t201, .int .u64 t202, .int .i64 t203] (0, 0) _ rfl (by refine kb_ ?_; refine bp_ #[.int .i64 t200, .bool t201, .int .u64 t202, .int .i64 0] 3 ?_; refine bp_ #[.int .i64 t200, .bool t201, .int .u64 0, .int .i64 0] 2 ?_; refine bp_ #[.int .i64 t200, .bool false, .int .u64 0, .int .i64 0] 1 ?_; refine bp_ #[.int .i64 0, .bool false, .int .u64 0, .int .i64 0] 0 ?_; exact BK195.out) Tryd.underlying24 rfl (by kernel_rfl)) rfl ?_
         exact ⟨rf_, bw_ HB.out⟩
        ·rw [if_neg c64] at H
         have c64b0 : (t196 == 0) = false := beq_eq_false_iff_ne.mpr c64
         have c64b1 : (t196 != 0) = true := bne_iff_ne.mpr c64
         have HC71 := Aside0.mk H
         clear H
         have hnb72 := NB194_193.out
         have hnc72 := NB193_194.out
         have hnb73 := NB194_195.out
         have hnc73 := NB195_194.out
         obtain ⟨hcz74_0, hcz74_1, hcz74_2, hcz74_3, hfz74_0, hfz74_1, hfz74_2, hfz74_3⟩ := c4_ BK194
         have hnb75 := NB193_195.out
         have hnc75 := NB195_193.out
         obtain ⟨hcz76_0, hcz76_1, hcz76_2, hcz76_3, hfz76_0, hfz76_1, hfz76_2, hfz76_3⟩ := c4_ BK193
         go_upto_region 8 with (fail)
         go_cut [68] (fun v68 wc => ∃ (kq : Nat) (x68_70 : Bool), v68 = .bool x68_70 ∧ Aside0 (arith_Add.j2 kq a2 x68_70 t196 t197 t198 t199 t200 t201 t202 t203 = some (r1, r2, r3, r4)) ∧ Aside0 (kq ≤ kj41) ∧ Aside0 (wc.heap[gb193]? = some (.cells #[.int .i64 t196, .bool t197, .int .u64 t198, .int .i64 t199] 24 (0, 0))) ∧ Aside0 (wc.heap[gb194]? = some (.cells #[.int .i64 t200, .bool t201, .int .u64 t202, .int .i64 t203] 24 (0, 0))) ∧ Aside0 (wc.heap[gb195]? = some (.cells #[.int .i64 0, .bool false, .int .u64 0, .int .i64 0] 24 (0, 0))) ∧ Aside0 (Below w.heap.size w wc))
         case first =>
          have H := HC71.out
          clear HC71
          by_cases c77 : t203 > t199
          ·rw [if_pos c77] at H
           have c77b0 : decide (t199 < t203) = true := decide_eq_true c77
           clear c77
           (first | rw [c77b0] | (simp only [i64_w, i32_w]; rw [c77b0]) | skip)
           have H' := Aside0.mk H
           clear H
           have hnb78 := NB194_193.out
           have hnc78 := NB193_194.out
           have hnb79 := NB194_195.out
           have hnc79 := NB195_194.out
           obtain ⟨hcz80_0, hcz80_1, hcz80_2, hcz80_3, hfz80_0, hfz80_1, hfz80_2, hfz80_3⟩ := c4_ BK194
           have hnb81 := NB193_195.out
           have hnc81 := NB195_193.out
           obtain ⟨hcz82_0, hcz82_1, hcz82_2, hcz82_3, hfz82_0, hfz82_1, hfz82_2, hfz82_3⟩ := c4_ BK193
           go_wp2
           go_meet
           case rel => exact ⟨_, (true), (by first | rfl | (simp; done) | (simp [*]; done)), H', ⟨by have := HJ5.out; have := HJ41.out; first | omega | exact Nat.le_refl _⟩, ⟨kb_ BK193.out⟩, ⟨kb_ BK194.out⟩, ⟨kb_ BK195.out⟩, ⟨bw_ HB.out⟩⟩
          ·rw [if_neg c77] at H
           have c77b0 : decide (t199 < t203) = false := decide_eq_false c77
           clear c77
           (first | rw [c77b0] | (simp only [i64_w, i32_w]; rw [c77b0]) | skip)
           by_cases c83 : t203 = t199
           ·rw [if_pos c83] at H
            have c83b0 : (t203 == t199) = true := beq_iff_eq.mpr c83
            have c83b1 : (t203 != t199) = false := bne_eq_false_iff_eq.mpr c83
            clear c83
            have H' := Aside0.mk H
            clear H
            have hnb84 := NB194_193.out
            have hnc84 := NB193_194.out
            have hnb85 := NB194_195.out
            have hnc85 := NB195_194.out
            obtain ⟨hcz86_0, hcz86_1, hcz86_2, hcz86_3, hfz86_0, hfz86_1, hfz86_2, hfz86_3⟩ := c4_ BK194
            have hnb87 := NB193_195.out
            have hnc87 := NB195_193.out
            obtain ⟨hcz88_0, hcz88_1, hcz88_2, hcz88_3, hfz88_0, hfz88_1, hfz88_2, hfz88_3⟩ := c4_ BK193
            go_wp2
            go_meet
            case rel => exact ⟨_, (decide (t202 > t198)), (by first | rfl | (simp; done) | (simp [*]; done)), H', ⟨by have := HJ5.out; have := HJ41.out; first | omega | exact Nat.le_refl _⟩, ⟨kb_ BK193.out⟩, ⟨kb_ BK194.out⟩, ⟨kb_ BK195.out⟩, ⟨bw_ HB.out⟩⟩
           ·rw [if_neg c83] at H
            have c83b0 : (t203 == t199) = false := beq_eq_false_iff_ne.mpr c83
            have c83b1 : (t203 != t199) = true := bne_iff_ne.mpr c83
            have H' := Aside0.mk H
            clear H
            have hnb89 := NB194_193.out
            have hnc89 := NB193_194.out
            have hnb90 := NB194_195.out
            have hnc90 := NB195_194.out
            obtain ⟨hcz91_0, hcz91_1, hcz91_2, hcz91_3, hfz91_0, hfz91_1, hfz91_2, hfz91_3⟩ := c4_ BK194
            have hnb92 := NB193_195.out
            have hnc92 := NB195_193.out
            obtain ⟨hcz93_0, hcz93_1, hcz93_2, hcz93_3, hfz93_0, hfz93_1, hfz93_2, hfz93_3⟩ := c4_ BK193
            go_wp2
            go_meet
            case rel => exact ⟨_, (false), (by first | rfl | (simp; done) | (simp [*]; done)), H', ⟨by have := HJ5.out; have := HJ41.out; first | omega | exact Nat.le_refl _⟩, ⟨kb_ BK193.out⟩, ⟨kb_ BK194.out⟩, ⟨kb_ BK195.out⟩, ⟨bw_ HB.out⟩⟩
         case rest =>
          clear HC71
          try clear c1
          try clear c2
          try clear p2
          try clear c3
          try clear c4
          try clear c5
          try clear c6
          try clear c7
          try clear c8
          try clear c9
          try clear c10
          try clear c14
          try clear c21
          try clear c21b0
          try clear c21b1
          try clear c22
          try clear c22b0
          try clear c22b1
          try clear c23
          try clear c24
          try clear c26
          try clear c28
          try clear c29
          try clear c31
          try clear c33
          try clear c34
          try clear c36
          try clear c39
          try clear c40
          try clear c43
          try clear c43b0
          try clear c43b1
          try clear c44
          try clear c45
          try clear c47
          try clear c48
          try clear c50
          try clear c52
          try clear c53
          try clear c54
          try clear c56
          try clear c58
          try clear c58b0
          try clear c58b1
          try clear c59
          try clear c60
          try clear c62
          try clear c64
          try clear c64b0
          try clear c64b1
          try clear c65
          try clear c66
          try clear c68
          try clear c72
          try clear c73
          try clear c75
          try clear c77
          try clear c77b0
          try clear c78
          try clear c79
          try clear c81
          try clear c83
          try clear c83b0
          try clear c83b1
          try clear c84
          try clear c85
          try clear c87
          try clear c89
          try clear c90
          try clear c92
          try clear hcz25_0 hcz25_1 hcz25_2 hcz25_3
          try clear hcz27_0 hcz27_1 hcz27_2 hcz27_3
          try clear hcz30_0 hcz30_1 hcz30_2 hcz30_3
          try clear hcz32_0 hcz32_1 hcz32_2 hcz32_3
          try clear hcz35_0 hcz35_1 hcz35_2 hcz35_3
          try clear hcz41_0 hcz41_1 hcz41_2 hcz41_3
          try clear hcz46_0 hcz46_1 hcz46_2 hcz46_3
          try clear hcz49_0 hcz49_1 hcz49_2 hcz49_3
          try clear hcz51_0 hcz51_1 hcz51_2 hcz51_3
          try clear hcz55_0 hcz55_1 hcz55_2 hcz55_3
          try clear hcz57_0 hcz57_1 hcz57_2 hcz57_3
          try clear hcz61_0 hcz61_1 hcz61_2 hcz61_3
          try clear hcz63_0 hcz63_1 hcz63_2 hcz63_3
          try clear hcz67_0 hcz67_1 hcz67_2 hcz67_3
          try clear hcz69_0 hcz69_1 hcz69_2 hcz69_3
          try clear hcz70_0 hcz70_1 hcz70_2 hcz70_3
          try clear hcz74_0 hcz74_1 hcz74_2 hcz74_3
          try clear hcz76_0 hcz76_1 hcz76_2 hcz76_3
          try clear hcz80_0 hcz80_1 hcz80_2 hcz80_3
          try clear hcz82_0 hcz82_1 hcz82_2 hcz82_3
          try clear hcz86_0 hcz86_1 hcz86_2 hcz86_3
          try clear hcz88_0 hcz88_1 hcz88_2 hcz88_3
          try clear hcz91_0 hcz91_1 hcz91_2 hcz91_3
          try clear hcz93_0 hcz93_1 hcz93_2 hcz93_3
          try clear hfz25_0 hfz25_1 hfz25_2 hfz25_3
          try clear hfz27_0 hfz27_1 hfz27_2 hfz27_3
          try clear hfz30_0 hfz30_1 hfz30_2 hfz30_3
          try clear hfz32_0 hfz32_1 hfz32_2 hfz32_3
          try clear hfz35_0 hfz35_1 hfz35_2 hfz35_3
          try clear hfz41_0 hfz41_1 hfz41_2 hfz41_3
          try clear hfz46_0 hfz46_1 hfz46_2 hfz46_3
          try clear hfz49_0 hfz49_1 hfz49_2 hfz49_3
          try clear hfz51_0 hfz51_1 hfz51_2 hfz51_3
          try clear hfz55_0 hfz55_1 hfz55_2 hfz55_3
          try clear hfz57_0 hfz57_1 hfz57_2 hfz57_3
          try clear hfz61_0 hfz61_1 hfz61_2 hfz61_3
          try clear hfz63_0 hfz63_1 hfz63_2 hfz63_3
          try clear hfz67_0 hfz67_1 hfz67_2 hfz67_3
          try clear hfz69_0 hfz69_1 hfz69_2 hfz69_3
          try clear hfz70_0 hfz70_1 hfz70_2 hfz70_3
          try clear hfz74_0 hfz74_1 hfz74_2 hfz74_3
          try clear hfz76_0 hfz76_1 hfz76_2 hfz76_3
          try clear hfz80_0 hfz80_1 hfz80_2 hfz80_3
          try clear hfz82_0 hfz82_1 hfz82_2 hfz82_3
          try clear hfz86_0 hfz86_1 hfz86_2 hfz86_3
          try clear hfz88_0 hfz88_1 hfz88_2 hfz88_3
          try clear hfz91_0 hfz91_1 hfz91_2 hfz91_3
          try clear hfz93_0 hfz93_1 hfz93_2 hfz93_3
          try clear p2
          obtain ⟨kq, x68_70, rfl, HA, HJ70, BK193, BK194, BK195, HB⟩ := hcut
          cases kq with
          | zero => exact absurd HA.out (by simp [arith_Add.j2])
          | succ kj70 =>
           have H := HA.out
           clear HA
           simp only [arith_Add.j2] at H
           have HC94 := Aside0.mk H
           clear H
           go_upto_if 68 with (fail)
           go_cut [] (fun wc => ∃ (kq : Nat) (x194000_93 : Int) (x194001_93 : Bool) (x194002_93 : Int) (x194003_93 : Int) (x195000_93 : Int) (x195001_93 : Bool) (x195002_93 : Int) (x195003_93 : Int), Aside0 (arith_Add.j3 kq a2 x194000_93 x194001_93 x194002_93 x194003_93 x195000_93 x195001_93 x195002_93 x195003_93 = some (r1, r2, r3, r4)) ∧ Aside0 (kq ≤ kj70) ∧ Aside0 (wc.heap[gb193]? = some (.cells #[.int .i64 x194000_93, .bool x194001_93, .int .u64 x194002_93, .int .i64 x194003_93] 24 (0, 0))) ∧ Aside0 (wc.heap[gb194]? = some (.cells #[.int .i64 x195000_93, .bool x195001_93, .int .u64 x195002_93, .int .i64 x195003_93] 24 (0, 0))) ∧ Aside0 (wc.heap[gb195]? = some (.cells #[.int .i64 0, .bool false, .int .u64 0, .int .i64 0] 24 (0, 0))) ∧ Aside0 (Below w.heap.size w wc))
           case first =>
            have H := HC94.out
            clear HC94
            by_cases c95 : x68_70 = true
            ·subst c95
             have H1 : (arith_Add.j3 kj70 a2 t200 t201 t202 t203 t196 t197 t198 t199) = some (r1, r2, r3, r4) := by rw [if_pos rfl] at H; exact H
             clear H
             have H := H1
             clear H1
             have H' := Aside0.mk H
             clear H
             have hnb96 := NB194_193.out
             have hnc96 := NB193_194.out
             have hnb97 := NB194_195.out
             have hnc97 := NB195_194.out
             obtain ⟨hcz98_0, hcz98_1, hcz98_2, hcz98_3, hfz98_0, hfz98_1, hfz98_2, hfz98_3⟩ := c4_ BK194
             have hnb99 := NB193_195.out
             have hnc99 := NB195_193.out
             obtain ⟨hcz100_0, hcz100_1, hcz100_2, hcz100_3, hfz100_0, hfz100_1, hfz100_2, hfz100_3⟩ := c4_ BK193
             go_wp2
             go_meet
             case rel => exact ⟨_, (t200), (t201), (t202), (t203), (t196), (t197), (t198), (t199), H', ⟨by have := HJ5.out; have := HJ41.out; have := HJ70.out; first | omega | exact Nat.le_refl _⟩, ⟨by refine kb_ ?_; refine bf_ NB193_194 ?_; refine bf_ NB193_194 ?_; refine bf_ NB193_194 ?_; refine bf_ NB193_194 ?_; refine bp_ #[.int .i64 t200, .bool t201, .int .u64 t202, .int .i64 t199] 3 ?_; refine bp_ #[.int .i64 t200, .bool t201, .int .u64 t198, .int .i64 t199] 2 ?_; refine bp_ #[.int .i64 t200, .bool t197, .int .u64 t198, .int .i64 t199] 1 ?_; refine bp_ #[.int .i64 t196, .bool t197, .int .u64 t198, .int .i64 t199] 0 ?_; exact BK193.out⟩, ⟨by refine kb_ ?_; refine bp_ #[.int .i64 t196, .bool t197, .int .u64 t198, .int .i64 t203] 3 ?_; refine bp_ #[.int .i64 t196, .bool t197, .int .u64 t202, .int .i64 t203] 2 ?_; refine bp_ #[.int .i64 t196, .bool t201, .int .u64 t202, .int .i64 t203] 1 ?_; refine bp_ #[.int .i64 t200, .bool t201, .int .u64 t202, .int .i64 t203] 0 ?_; refine bf_ NB194_193 ?_; refine bf_ NB194_193 ?_; refine bf_ NB194_193 ?_; refine bf_ NB194_193 ?_; exact BK194.out⟩, ⟨by refine kb_ ?_; refine bf_ NB195_194 ?_; refine bf_ NB195_194 ?_; refine bf_ NB195_194 ?_; refine bf_ NB195_194 ?_; refine bf_ NB195_193 ?_; refine bf_ NB195_193 ?_; refine bf_ NB195_193 ?_; refine bf_ NB195_193 ?_; exact BK195.out⟩, ⟨bw_ HB.out⟩⟩
            ·replace c95 := Bool.eq_false_iff.mpr c95
             subst c95
             have H1 : (arith_Add.j3 kj70 a2 t196 t197 t198 t199 t200 t201 t202 t203) = some (r1, r2, r3, r4) := by rw [if_neg (show ¬ (false = true) by decide)] at H; exact H
             clear H
             have H := H1
             clear H1
             have H' := Aside0.mk H
             clear H
             go_wp2
             go_meet
             case rel => exact ⟨_, (t196), (t197), (t198), (t199), (t200), (t201), (t202), (t203), H', ⟨by have := HJ5.out; have := HJ41.out; have := HJ70.out; first | omega | exact Nat.le_refl _⟩, ⟨kb_ BK193.out⟩, ⟨kb_ BK194.out⟩, ⟨kb_ BK195.out⟩, ⟨bw_ HB.out⟩⟩
           case rest =>
            clear HC94
            try clear c1
            try clear c2
            try clear p2
            try clear c3
            try clear c4
            try clear c5
            try clear c6
            try clear c7
            try clear c8
            try clear c9
            try clear c10
            try clear c14
            try clear c21
            try clear c21b0
            try clear c21b1
            try clear c22
            try clear c22b0
            try clear c22b1
            try clear c23
            try clear c24
            try clear c26
            try clear c28
            try clear c29
            try clear c31
            try clear c33
            try clear c34
            try clear c36
            try clear c39
            try clear c40
            try clear c43
            try clear c43b0
            try clear c43b1
            try clear c44
            try clear c45
            try clear c47
            try clear c48
            try clear c50
            try clear c52
            try clear c53
            try clear c54
            try clear c56
            try clear c58
            try clear c58b0
            try clear c58b1
            try clear c59
            try clear c60
            try clear c62
            try clear c64
            try clear c64b0
            try clear c64b1
            try clear c65
            try clear c66
            try clear c68
            try clear c72
            try clear c73
            try clear c75
            try clear c77
            try clear c77b0
            try clear c78
            try clear c79
            try clear c81
            try clear c83
            try clear c83b0
            try clear c83b1
            try clear c84
            try clear c85
            try clear c87
            try clear c89
            try clear c90
            try clear c92
            try clear c95
            try clear c96
            try clear c97
            try clear c99
            try clear hcz100_0 hcz100_1 hcz100_2 hcz100_3
            try clear hcz25_0 hcz25_1 hcz25_2 hcz25_3
            try clear hcz27_0 hcz27_1 hcz27_2 hcz27_3
            try clear hcz30_0 hcz30_1 hcz30_2 hcz30_3
            try clear hcz32_0 hcz32_1 hcz32_2 hcz32_3
            try clear hcz35_0 hcz35_1 hcz35_2 hcz35_3
            try clear hcz41_0 hcz41_1 hcz41_2 hcz41_3
            try clear hcz46_0 hcz46_1 hcz46_2 hcz46_3
            try clear hcz49_0 hcz49_1 hcz49_2 hcz49_3
            try clear hcz51_0 hcz51_1 hcz51_2 hcz51_3
            try clear hcz55_0 hcz55_1 hcz55_2 hcz55_3
            try clear hcz57_0 hcz57_1 hcz57_2 hcz57_3
            try clear hcz61_0 hcz61_1 hcz61_2 hcz61_3
            try clear hcz63_0 hcz63_1 hcz63_2 hcz63_3
            try clear hcz67_0 hcz67_1 hcz67_2 hcz67_3
            try clear hcz69_0 hcz69_1 hcz69_2 hcz69_3
            try clear hcz70_0 hcz70_1 hcz70_2 hcz70_3
            try clear hcz74_0 hcz74_1 hcz74_2 hcz74_3
            try clear hcz76_0 hcz76_1 hcz76_2 hcz76_3
            try clear hcz80_0 hcz80_1 hcz80_2 hcz80_3
            try clear hcz82_0 hcz82_1 hcz82_2 hcz82_3
            try clear hcz86_0 hcz86_1 hcz86_2 hcz86_3
            try clear hcz88_0 hcz88_1 hcz88_2 hcz88_3
            try clear hcz91_0 hcz91_1 hcz91_2 hcz91_3
            try clear hcz93_0 hcz93_1 hcz93_2 hcz93_3
            try clear hcz98_0 hcz98_1 hcz98_2 hcz98_3
            try clear hfz100_0 hfz100_1 hfz100_2 hfz100_3
            try clear hfz25_0 hfz25_1 hfz25_2 hfz25_3
            try clear hfz27_0 hfz27_1 hfz27_2 hfz27_3
            try clear hfz30_0 hfz30_1 hfz30_2 hfz30_3
            try clear hfz32_0 hfz32_1 hfz32_2 hfz32_3
            try clear hfz35_0 hfz35_1 hfz35_2 hfz35_3
            try clear hfz41_0 hfz41_1 hfz41_2 hfz41_3
            try clear hfz46_0 hfz46_1 hfz46_2 hfz46_3
            try clear hfz49_0 hfz49_1 hfz49_2 hfz49_3
            try clear hfz51_0 hfz51_1 hfz51_2 hfz51_3
            try clear hfz55_0 hfz55_1 hfz55_2 hfz55_3
            try clear hfz57_0 hfz57_1 hfz57_2 hfz57_3
            try clear hfz61_0 hfz61_1 hfz61_2 hfz61_3
            try clear hfz63_0 hfz63_1 hfz63_2 hfz63_3
            try clear hfz67_0 hfz67_1 hfz67_2 hfz67_3
            try clear hfz69_0 hfz69_1 hfz69_2 hfz69_3
            try clear hfz70_0 hfz70_1 hfz70_2 hfz70_3
            try clear hfz74_0 hfz74_1 hfz74_2 hfz74_3
            try clear hfz76_0 hfz76_1 hfz76_2 hfz76_3
            try clear hfz80_0 hfz80_1 hfz80_2 hfz80_3
            try clear hfz82_0 hfz82_1 hfz82_2 hfz82_3
            try clear hfz86_0 hfz86_1 hfz86_2 hfz86_3
            try clear hfz88_0 hfz88_1 hfz88_2 hfz88_3
            try clear hfz91_0 hfz91_1 hfz91_2 hfz91_3
            try clear hfz93_0 hfz93_1 hfz93_2 hfz93_3
            try clear hfz98_0 hfz98_1 hfz98_2 hfz98_3
            try clear p2
            obtain ⟨kq, x194000_93, x194001_93, x194002_93, x194003_93, x195000_93, x195001_93, x195002_93, x195003_93, HA, HJ93, BK193, BK194, BK195, HB⟩ := hcut
            cases kq with
            | zero => exact absurd HA.out (by simp [arith_Add.j3])
            | succ kj93 =>
             have H := HA.out
             clear HA
             simp only [arith_Add.j3] at H
             by_cases c101 : (x194001_93 == x195001_93) = true
             ·rw [if_pos c101] at H
              have c101b0 : (x194001_93 == x195001_93) = true := c101
              (try (have c101b1 : decide (x194001_93 = x195001_93) = true := by simpa using c101))
              (try (have c101b2 : (x194001_93 == x195001_93) = true := by simpa using c101))
              clear c101
              replace H := Option.bind_eq_some_iff.mp H
              obtain ⟨⟨t208, t209, t210, t211⟩, A1020, H⟩ := H
              (try dsimp only at H)
              have A102 := Aside0.mk A1020
              clear A1020
              simp only [Option.some.injEq, Prod.mk.injEq] at H
              obtain ⟨rfl, rfl, rfl, rfl⟩ := H
              have hnb103 := NB193_194.out
              have hnc103 := NB194_193.out
              have hnb104 := NB193_195.out
              have hnc104 := NB195_193.out
              obtain ⟨hcz105_0, hcz105_1, hcz105_2, hcz105_3, hfz105_0, hfz105_1, hfz105_2, hfz105_3⟩ := c4_ BK193
              have hnb106 := NB194_195.out
              have hnc106 := NB195_194.out
              obtain ⟨hcz107_0, hcz107_1, hcz107_2, hcz107_3, hfz107_0, hfz107_1, hfz107_2, hfz107_3⟩ := c4_ BK194
              go_wp2_with (first | ((with_reducible refine gate_callee (f := 24) rfl ?_); refine gl_ (some 80) Tryd.func24 #[.agg #[.int .i64 x194000_93, .bool x194001_93, .int .u64 x194002_93, .int .i64 x194003_93], .agg #[.int .i64 x195000_93, .bool x195001_93, .int .u64 x195002_93, .int .i64 x195003_93], .bool a2] ?_; (with_reducible refine (arith_plus.calls kj93 x194000_93 x194001_93 x194002_93 x194003_93 x195000_93 x195001_93 x195002_93 x195003_93 a2 t208 t209 t210 t211 _ A102.out).mono ?_); rintro e w108 ⟨rfl, hb⟩; refine ⟨_, rfl, ?_⟩; replace BK193 := kq_ BK193 hb; replace BK194 := kq_ BK194 hb; replace BK195 := kq_ BK195 hb; replace HB := bq_ HB hb; (try clear hb); (try clear hb2); (try clear hk); (try clear hi); obtain ⟨hcz109_0, hcz109_1, hcz109_2, hcz109_3, hfz109_0, hfz109_1, hfz109_2, hfz109_3⟩ := c4_ BK195))
              refine bodyPost_ret (results_cell_row rfl _ _ gb195 24 #[.int .i64 t208, .bool t209, .int .u64 t210, .int .i64 t211] (0, 0) _ rfl (by refine kb_ ?_; refine bp_ #[.int .i64 t208, .bool t209, .int .u64 t210, .int .i64 0] 3 ?_; refine bp_ #[.int .i64 t208, .bool t209, .int .u64 0, .int .i64 0] 2 ?_; refine bp_ #[.int .i64 t208, .bool false, .int .u64 0, .int .i64 0] 1 ?_; refine bp_ #[.int .i64 0, .bool false, .int .u64 0, .int .i64 0] 0 ?_; exact BK195.out) Tryd.underlying24 rfl (by kernel_rfl)) rfl ?_
              exact ⟨rf_, bw_ HB.out⟩
             ·rw [if_neg c101] at H
              have c101b0 : (x194001_93 == x195001_93) = false := by simpa using c101
              (try (have c101b1 : decide (x194001_93 = x195001_93) = false := by simpa using c101))
              (try (have c101b2 : (x194001_93 == x195001_93) = false := by simpa using c101))
              (try (have c101b3 : ¬ (x194001_93 = x195001_93) := by simpa using c101))
              clear c101
              by_cases c110 : x194003_93 = x195003_93
              ·rw [if_pos c110] at H
               have c110b0 : (x194003_93 == x195003_93) = true := beq_iff_eq.mpr c110
               have c110b1 : (x194003_93 != x195003_93) = false := bne_eq_false_iff_eq.mpr c110
               clear c110
               by_cases c111 : x194002_93 = x195002_93
               ·rw [if_pos c111] at H
                have c111b0 : (x194002_93 == x195002_93) = true := beq_iff_eq.mpr c111
                have c111b1 : (x194002_93 != x195002_93) = false := bne_eq_false_iff_eq.mpr c111
                clear c111
                simp only [Option.some.injEq, Prod.mk.injEq] at H
                obtain ⟨rfl, rfl, rfl, rfl⟩ := H
                have hnb112 := NB193_194.out
                have hnc112 := NB194_193.out
                have hnb113 := NB193_195.out
                have hnc113 := NB195_193.out
                obtain ⟨hcz114_0, hcz114_1, hcz114_2, hcz114_3, hfz114_0, hfz114_1, hfz114_2, hfz114_3⟩ := c4_ BK193
                have hnb115 := NB194_195.out
                have hnc115 := NB195_194.out
                obtain ⟨hcz116_0, hcz116_1, hcz116_2, hcz116_3, hfz116_0, hfz116_1, hfz116_2, hfz116_3⟩ := c4_ BK194
                obtain ⟨hcz117_0, hcz117_1, hcz117_2, hcz117_3, hfz117_0, hfz117_1, hfz117_2, hfz117_3⟩ := c4_ BK195
                go_wp2
                refine bodyPost_ret (results_cell_row rfl _ _ gb195 24 #[.int .i64 0, .bool false, .int .u64 0, .int .i64 0] (0, 0) _ rfl (by refine kb_ ?_; refine bp_ #[.int .i64 0, .bool false, .int .u64 0, .int .i64 0] 3 ?_; refine bp_ #[.int .i64 0, .bool false, .int .u64 0, .int .i64 0] 2 ?_; refine bp_ #[.int .i64 0, .bool false, .int .u64 0, .int .i64 0] 1 ?_; refine bp_ #[.int .i64 0, .bool false, .int .u64 0, .int .i64 0] 0 ?_; exact BK195.out) Tryd.underlying24 rfl (by kernel_rfl)) rfl ?_
                exact ⟨rf_, bw_ HB.out⟩
               ·rw [if_neg c111] at H
                have c111b0 : (x194002_93 == x195002_93) = false := beq_eq_false_iff_ne.mpr c111
                have c111b1 : (x194002_93 != x195002_93) = true := bne_iff_ne.mpr c111
                replace H := Option.bind_eq_some_iff.mp H
                obtain ⟨⟨t212, t213, t214, t215⟩, A1180, H⟩ := H
                (try dsimp only at H)
                have A118 := Aside0.mk A1180
                clear A1180
                simp only [Option.some.injEq, Prod.mk.injEq] at H
                obtain ⟨rfl, rfl, rfl, rfl⟩ := H
                have hnb119 := NB193_194.out
                have hnc119 := NB194_193.out
                have hnb120 := NB193_195.out
                have hnc120 := NB195_193.out
                obtain ⟨hcz121_0, hcz121_1, hcz121_2, hcz121_3, hfz121_0, hfz121_1, hfz121_2, hfz121_3⟩ := c4_ BK193
                have hnb122 := NB194_195.out
                have hnc122 := NB195_194.out
                obtain ⟨hcz123_0, hcz123_1, hcz123_2, hcz123_3, hfz123_0, hfz123_1, hfz123_2, hfz123_3⟩ := c4_ BK194
                go_wp2_with (first | ((with_reducible refine gate_callee (f := 25) rfl ?_); refine gl_ (some 98) Tryd.func25 #[.agg #[.int .i64 x194000_93, .bool x194001_93, .int .u64 x194002_93, .int .i64 x194003_93], .agg #[.int .i64 x195000_93, .bool x195001_93, .int .u64 x195002_93, .int .i64 x195003_93], .bool a2] ?_; (with_reducible refine (arith_minus.calls kj93 x194000_93 x194001_93 x194002_93 x194003_93 x195000_93 x195001_93 x195002_93 x195003_93 a2 t212 t213 t214 t215 _ A118.out).mono ?_); rintro e w124 ⟨rfl, hb⟩; refine ⟨_, rfl, ?_⟩; replace BK193 := kq_ BK193 hb; replace BK194 := kq_ BK194 hb; replace BK195 := kq_ BK195 hb; replace HB := bq_ HB hb; (try clear hb); (try clear hb2); (try clear hk); (try clear hi); obtain ⟨hcz125_0, hcz125_1, hcz125_2, hcz125_3, hfz125_0, hfz125_1, hfz125_2, hfz125_3⟩ := c4_ BK195))
                refine bodyPost_ret (results_cell_row rfl _ _ gb195 24 #[.int .i64 t212, .bool t213, .int .u64 t214, .int .i64 t215] (0, 0) _ rfl (by refine kb_ ?_; refine bp_ #[.int .i64 t212, .bool t213, .int .u64 t214, .int .i64 0] 3 ?_; refine bp_ #[.int .i64 t212, .bool t213, .int .u64 0, .int .i64 0] 2 ?_; refine bp_ #[.int .i64 t212, .bool false, .int .u64 0, .int .i64 0] 1 ?_; refine bp_ #[.int .i64 0, .bool false, .int .u64 0, .int .i64 0] 0 ?_; exact BK195.out) Tryd.underlying24 rfl (by kernel_rfl)) rfl ?_
                exact ⟨rf_, bw_ HB.out⟩
              ·rw [if_neg c110] at H
               have c110b0 : (x194003_93 == x195003_93) = false := beq_eq_false_iff_ne.mpr c110
               have c110b1 : (x194003_93 != x195003_93) = true := bne_iff_ne.mpr c110
               replace H := Option.bind_eq_some_iff.mp H
               obtain ⟨⟨t216, t217, t218, t219⟩, A1260, H⟩ := H
               (try dsimp only at H)
               have A126 := Aside0.mk A1260
               clear A1260
               simp only [Option.some.injEq, Prod.mk.injEq] at H
               obtain ⟨rfl, rfl, rfl, rfl⟩ := H
               have hnb127 := NB193_194.out
               have hnc127 := NB194_193.out
               have hnb128 := NB193_195.out
               have hnc128 := NB195_193.out
               obtain ⟨hcz129_0, hcz129_1, hcz129_2, hcz129_3, hfz129_0, hfz129_1, hfz129_2, hfz129_3⟩ := c4_ BK193
               have hnb130 := NB194_195.out
               have hnc130 := NB195_194.out
               obtain ⟨hcz131_0, hcz131_1, hcz131_2, hcz131_3, hfz131_0, hfz131_1, hfz131_2, hfz131_3⟩ := c4_ BK194
               go_wp2_with (first | ((with_reducible refine gate_callee (f := 25) rfl ?_); refine gl_ (some 98) Tryd.func25 #[.agg #[.int .i64 x194000_93, .bool x194001_93, .int .u64 x194002_93, .int .i64 x194003_93], .agg #[.int .i64 x195000_93, .bool x195001_93, .int .u64 x195002_93, .int .i64 x195003_93], .bool a2] ?_; (with_reducible refine (arith_minus.calls kj93 x194000_93 x194001_93 x194002_93 x194003_93 x195000_93 x195001_93 x195002_93 x195003_93 a2 t216 t217 t218 t219 _ A126.out).mono ?_); rintro e w132 ⟨rfl, hb⟩; refine ⟨_, rfl, ?_⟩; replace BK193 := kq_ BK193 hb; replace BK194 := kq_ BK194 hb; replace BK195 := kq_ BK195 hb; replace HB := bq_ HB hb; (try clear hb); (try clear hb2); (try clear hk); (try clear hi); obtain ⟨hcz133_0, hcz133_1, hcz133_2, hcz133_3, hfz133_0, hfz133_1, hfz133_2, hfz133_3⟩ := c4_ BK195))
               refine bodyPost_ret (results_cell_row rfl _ _ gb195 24 #[.int .i64 t216, .bool t217, .int .u64 t218, .int .i64 t219] (0, 0) _ rfl (by refine kb_ ?_; refine bp_ #[.int .i64 t216, .bool t217, .int .u64 t218, .int .i64 0] 3 ?_; refine bp_ #[.int .i64 t216, .bool t217, .int .u64 0, .int .i64 0] 2 ?_; refine bp_ #[.int .i64 t216, .bool false, .int .u64 0, .int .i64 0] 1 ?_; refine bp_ #[.int .i64 0, .bool false, .int .u64 0, .int .i64 0] 0 ?_; exact BK195.out) Tryd.underlying24 rfl (by kernel_rfl)) rfl ?_
               exact ⟨rf_, bw_ HB.out⟩

end Go.Proofs.YthlhogcnfaiphaaDoor.PA
