-- Laid by this work's own program; Lean checks it.
import Derived.Test.YthlhogcnfaiphaaPAx0
import Derived.Test.YthlhogcnfaiphaaPAx2
import Derived.Test.YthlhogcnfaiphaaPAx3
namespace Go.Proofs.Ythlhogcnfaiphaa.PA
open Go.RowKit Go.Proofs.YthlhogcnfaiphaaW.PrintWords Go.Proofs.YthlhogcnfaiphaaW.PrintLast Go.Proofs.YthlhogcnfaiphaaW.PrintMore
attribute [local go_sem] max2_int min2_int max_two min_two max_three min_three max_four min_four   -- for this text's walks alone
set_option linter.unusedVariables false
set_option linter.unusedSimpArgs false

attribute [local go_sem ↓ high] isSome_set_
/-! ### bits_Mul64: function 35 -/
set_option maxHeartbeats 8000000 in
set_option maxRecDepth 100000 in
theorem bits_Mul64.calls (a0 : Int) (a1 : Int) (r1 : Int) (r2 : Int) (w : World) (h : bits_Mul64.f a0 a1 = some (r1, r2)) :
  Calls Try.prog 35 #[.int .u64 a0, .int .u64 a1] w fun e w' => e = .returned (.tuple #[.int .u64 r1, .int .u64 r2]) ∧ Drawn0 w w' := by
 have H : (some (IntKind.u64.wrap ((IntKind.u64.wrap ((IntKind.u64.wrap ((a0 / 4294967296) * (a1 / 4294967296))) + ((IntKind.u64.wrap ((IntKind.u64.wrap ((a0 / 4294967296) * (Go.bits .and .u64 a1 4294967295))) + ((IntKind.u64.wrap ((Go.bits .and .u64 a0 4294967295) * (Go.bits .and .u64 a1 4294967295))) / 4294967296))) / 4294967296))) + ((IntKind.u64.wrap ((Go.bits .and .u64 (IntKind.u64.wrap ((IntKind.u64.wrap ((a0 / 4294967296) * (Go.bits .and .u64 a1 4294967295))) + ((IntKind.u64.wrap ((Go.bits .and .u64 a0 4294967295) * (Go.bits .and .u64 a1 4294967295))) / 4294967296))) 4294967295) + (IntKind.u64.wrap ((Go.bits .and .u64 a0 4294967295) * (a1 / 4294967296))))) / 4294967296)), IntKind.u64.wrap (a0 * a1))) = some (r1, r2) := h
 clear h
 simp only [Option.some.injEq, Prod.mk.injEq] at H
 obtain ⟨rfl, rfl⟩ := H
 go_enter Try.func35, Try.ntmps35
 go_wp2
 go_ret2
 exact ⟨by first | rfl | (simp; done) | (simp [*]; done), by repeat (first | exact Drawn0.refl _ | apply Drawn0.step)⟩

/-! ### arith_Mul: function 13 -/
set_option maxHeartbeats 8000000 in
set_option maxRecDepth 100000 in
theorem arith_Mul.calls (k : Nat) (a0_0 : Int) (a0_1 : Bool) (a0_2 : Int) (a0_3 : Int) (a1_0 : Int) (a1_1 : Bool) (a1_2 : Int) (a1_3 : Int) (a2 : Bool) (r1 : Int) (r2 : Bool) (r3 : Int) (r4 : Int) (w : World) (h : arith_Mul.f k a0_0 a0_1 a0_2 a0_3 a1_0 a1_1 a1_2 a1_3 a2 = some (r1, r2, r3, r4)) :
  Calls Try.prog 13 #[.agg #[.int .i64 a0_0, .bool a0_1, .int .u64 a0_2, .int .i64 a0_3], .agg #[.int .i64 a1_0, .bool a1_1, .int .u64 a1_2, .int .i64 a1_3], .bool a2] w fun e w' => e = .returned (.agg #[.int .i64 r1, .bool r2, .int .u64 r3, .int .i64 r4]) ∧ Below w.heap.size w w' := by
 have hu24 := Try.underlying24
 have HB := Aside0.mk (Below.refl w.heap.size w)
 have H : ((arith_fair.f a0_0 a0_1 a0_2 a0_3).bind fun bt223 => ((arith_fair.f a1_0 a1_1 a1_2 a1_3).bind fun bt227 => (if bt223.1 = 0 then (arith_Mul.j0 k a2 (bt223.2.1 != bt227.2.1) true bt223.1 bt223.2.1 bt223.2.2.1 bt223.2.2.2 bt227.1 bt227.2.1 bt227.2.2.1 bt227.2.2.2) else (arith_Mul.j0 k a2 (bt223.2.1 != bt227.2.1) (bt227.1 == 0) bt223.1 bt223.2.1 bt223.2.2.1 bt223.2.2.2 bt227.1 bt227.2.1 bt227.2.2.1 bt227.2.2.2)))) = some (r1, r2, r3, r4) := h
 clear h
 replace H := Option.bind_eq_some_iff.mp H
 obtain ⟨⟨t223, t224, t225, t226⟩, A40, H⟩ := H
 (try dsimp only at H)
 have A4 := Aside0.mk A40
 clear A40
 replace H := Option.bind_eq_some_iff.mp H
 obtain ⟨⟨t227, t228, t229, t230⟩, A50, H⟩ := H
 (try dsimp only at H)
 have A5 := Aside0.mk A50
 clear A50
 have HC6 := Aside0.mk H
 clear H
 go_enter Try.func13, Try.ntmps13
 try go_wp2_with (first | ((with_reducible refine gate_dst (N := 3) rfl ?_); refine bx_ 3 #[.int .i64 a0_0, .bool a0_1, .int .u64 a0_2, .int .i64 a0_3] 24 ?_; intro gb220 hg w7 hbox hb; have n0_ := bq_ HB hb; have n1_ := Aside0.mk (hbox); have n2_ := ge_ hg HB; have n3_ := ge_ hg HB; clear HB; have HB := n0_; have BK220 := n1_; have GW220 := n2_; have GE220 := n3_; clear n0_ n1_ n2_ n3_; clear hb hbox hg) | ((with_reducible refine gate_dst (N := 4) rfl ?_); refine bx_ 4 #[.int .i64 a1_0, .bool a1_1, .int .u64 a1_2, .int .i64 a1_3] 24 ?_; intro gb221 hg w8 hbox hb; have n0_ := kq_ BK220 hb; have n1_ := bq_ HB hb; have n2_ := Aside0.mk (hbox); have n3_ := ge_ hg HB; have n4_ := ge_ hg HB; have n5_ := nb_ hg BK220; have n6_ := nc_ hg BK220; clear BK220; clear HB; have BK220 := n0_; have HB := n1_; have BK221 := n2_; have GW221 := n3_; have GE221 := n4_; have NB220_221 := n5_; have NB221_220 := n6_; clear n0_ n1_ n2_ n3_ n4_ n5_ n6_; clear hb hbox hg) | ((with_reducible refine gate_dst (N := 6) rfl ?_); refine bx_ 6 #[.int .i64 0, .bool false, .int .u64 0, .int .i64 0] 24 ?_; intro gb222 hg w9 hbox hb; have n0_ := kq_ BK220 hb; have n1_ := kq_ BK221 hb; have n2_ := bq_ HB hb; have n3_ := Aside0.mk (hbox); have n4_ := ge_ hg HB; have n5_ := ge_ hg HB; have n6_ := nb_ hg BK220; have n7_ := nc_ hg BK220; have n8_ := nb_ hg BK221; have n9_ := nc_ hg BK221; clear BK220; clear BK221; clear HB; have BK220 := n0_; have BK221 := n1_; have HB := n2_; have BK222 := n3_; have GW222 := n4_; have GE222 := n5_; have NB220_222 := n6_; have NB222_220 := n7_; have NB221_222 := n8_; have NB222_221 := n9_; clear n0_ n1_ n2_ n3_ n4_ n5_ n6_ n7_ n8_ n9_; clear hb hbox hg))
 have n0_ := Aside0.mk (blk_drew BK220.out)
 have n1_ := Aside0.mk (blk_drew BK221.out)
 have n2_ := Aside0.mk (blk_drew BK222.out)
 have n3_ := Aside0.mk (below_drew1 HB.out)
 clear BK220
 clear BK221
 clear BK222
 clear HB
 have BK220 := n0_
 have BK221 := n1_
 have BK222 := n2_
 have HB := n3_
 clear n0_ n1_ n2_ n3_
 refine start_ (n := 6) (S := fun w' => w'.cell? ⟨gb220, 0, none⟩ = some (.int .i64 a0_0) ∧ w'.cell? ⟨gb220, 1, none⟩ = some (.bool a0_1) ∧ w'.cell? ⟨gb220, 2, none⟩ = some (.int .u64 a0_2) ∧ w'.cell? ⟨gb220, 3, none⟩ = some (.int .i64 a0_3) ∧ w'.cell? ⟨gb221, 0, none⟩ = some (.int .i64 a1_0) ∧ w'.cell? ⟨gb221, 1, none⟩ = some (.bool a1_1) ∧ w'.cell? ⟨gb221, 2, none⟩ = some (.int .u64 a1_2) ∧ w'.cell? ⟨gb221, 3, none⟩ = some (.int .i64 a1_3)) (ds := [4, 5]) #[false, false, false, false, false, false] (by kernel_rfl) rfl rfl ⟨(blk_cell BK220.out 0).trans rfl, (blk_cell BK220.out 1).trans rfl, (blk_cell BK220.out 2).trans rfl, (blk_cell BK220.out 3).trans rfl, (blk_cell BK221.out 0).trans rfl, (blk_cell BK221.out 1).trans rfl, (blk_cell BK221.out 2).trans rfl, (blk_cell BK221.out 3).trans rfl⟩ (fun hHeld => ?_)
 generalize w9.drew = w10 at BK220 BK221 BK222 HB hHeld ⊢
 refine take_ (i := 0) (N := some 11) (v := ?_) (a' := ?_) #[true, false, false, false, false, false] rfl rfl (by kernel_rfl) (fun _ _ _ h => h) (Or.inl ⟨by rfl, ?_⟩) hHeld ?_ ?_
 rotate_left
 ·rintro w' ⟨s0, s1, s2, s3, s4, s5, s6, s7⟩
  go_simp
  with_reducible rfl
 rotate_left
 ·simp only [Act.put, List.setIfInBounds_toArray, List.set_cons_zero, List.set_cons_succ, i64_w, i32_w]
  rfl
 refine take_ (i := 2) (N := some 13) (v := ?_) (a' := ?_) #[true, false, true, false, false, false] rfl rfl (by kernel_rfl) (fun _ _ _ h => h) (Or.inl ⟨by rfl, ?_⟩) hHeld ?_ ?_
 rotate_left
 ·rintro w' ⟨s0, s1, s2, s3, s4, s5, s6, s7⟩
  go_simp
  with_reducible rfl
 rotate_left
 ·simp only [Act.put, List.setIfInBounds_toArray, List.set_cons_zero, List.set_cons_succ, i64_w, i32_w]
  rfl
 refine one_ (i := 1) (N := some 12) #[true, true, true, false, false, false] rfl rfl (by kernel_rfl) (by decide) (fun K hK => ?_)
 refine gs_ Try.func31 #[.agg #[.int .i64 a0_0, .bool a0_1, .int .u64 a0_2, .int .i64 a0_3]] ?_
 with_reducible refine (arith_fair.calls a0_0 a0_1 a0_2 a0_3 t223 t224 t225 t226 _ A4.out).mono ?_
 rintro e w11 ⟨rfl, hb⟩
 refine ⟨_, rfl, ?_⟩
 have n0_ := kq_ BK220 hb
 have n1_ := kq_ BK221 hb
 have n2_ := kq_ BK222 hb
 have n3_ := bq_ HB hb
 clear BK220
 clear BK221
 clear BK222
 clear HB
 have BK220 := n0_
 have BK221 := n1_
 have BK222 := n2_
 have HB := n3_
 clear n0_ n1_ n2_ n3_
 (try clear hb)
 (try clear hb2)
 (try clear hk)
 (try clear hi)
 refine hK.out _ _ ⟨(blk_cell BK220.out 0).trans rfl, (blk_cell BK220.out 1).trans rfl, (blk_cell BK220.out 2).trans rfl, (blk_cell BK220.out 3).trans rfl, (blk_cell BK221.out 0).trans rfl, (blk_cell BK221.out 1).trans rfl, (blk_cell BK221.out 2).trans rfl, (blk_cell BK221.out 3).trans rfl⟩ (fun hHeld => ?_)
 clear hK K
 refine norm_ (a' := ?_) ?_ ?_
 rotate_left
 ·show Act.put _ (some 12) _ = _
  simp only [Act.put, List.setIfInBounds_toArray, List.set_cons_zero, List.set_cons_succ, i64_w, i32_w]
  rfl
 refine one_ (i := 3) (N := some 14) #[true, true, true, true, false, false] rfl rfl (by kernel_rfl) (by decide) (fun K hK => ?_)
 refine gs_ Try.func31 #[.agg #[.int .i64 a1_0, .bool a1_1, .int .u64 a1_2, .int .i64 a1_3]] ?_
 with_reducible refine (arith_fair.calls a1_0 a1_1 a1_2 a1_3 t227 t228 t229 t230 _ A5.out).mono ?_
 rintro e w12 ⟨rfl, hb⟩
 refine ⟨_, rfl, ?_⟩
 have n0_ := kq_ BK220 hb
 have n1_ := kq_ BK221 hb
 have n2_ := kq_ BK222 hb
 have n3_ := bq_ HB hb
 clear BK220
 clear BK221
 clear BK222
 clear HB
 have BK220 := n0_
 have BK221 := n1_
 have BK222 := n2_
 have HB := n3_
 clear n0_ n1_ n2_ n3_
 (try clear hb)
 (try clear hb2)
 (try clear hk)
 (try clear hi)
 refine hK.out _ _ ⟨(blk_cell BK220.out 0).trans rfl, (blk_cell BK220.out 1).trans rfl, (blk_cell BK220.out 2).trans rfl, (blk_cell BK220.out 3).trans rfl, (blk_cell BK221.out 0).trans rfl, (blk_cell BK221.out 1).trans rfl, (blk_cell BK221.out 2).trans rfl, (blk_cell BK221.out 3).trans rfl⟩ (fun hHeld => ?_)
 clear hK K
 refine norm_ (a' := ?_) ?_ ?_
 rotate_left
 ·show Act.put _ (some 14) _ = _
  simp only [Act.put, List.setIfInBounds_toArray, List.set_cons_zero, List.set_cons_succ, i64_w, i32_w]
  rfl
 refine last_ (i := 4) (N := none) #[true, true, true, true, true, false] rfl rfl (by kernel_rfl) (by decide) (fun K hK => ?_)
 have hs13 : w12.cell? ⟨gb220, 0, none⟩ = some (.int .i64 a0_0) := (blk_cell BK220.out 0).trans rfl
 have hfs13 := fz_ BK220 0
 have hns13_1 := NB221_220.out
 have hns13_2 := NB222_220.out
 have hms13_1 := NB220_221.out
 have hms13_2 := NB220_222.out
 have hs14 : w12.cell? ⟨gb220, 1, none⟩ = some (.bool a0_1) := (blk_cell BK220.out 1).trans rfl
 have hfs14 := fz_ BK220 1
 have hns14_1 := NB221_220.out
 have hns14_2 := NB222_220.out
 have hms14_1 := NB220_221.out
 have hms14_2 := NB220_222.out
 have hs15 : w12.cell? ⟨gb220, 2, none⟩ = some (.int .u64 a0_2) := (blk_cell BK220.out 2).trans rfl
 have hfs15 := fz_ BK220 2
 have hns15_1 := NB221_220.out
 have hns15_2 := NB222_220.out
 have hms15_1 := NB220_221.out
 have hms15_2 := NB220_222.out
 have hs16 : w12.cell? ⟨gb220, 3, none⟩ = some (.int .i64 a0_3) := (blk_cell BK220.out 3).trans rfl
 have hfs16 := fz_ BK220 3
 have hns16_1 := NB221_220.out
 have hns16_2 := NB222_220.out
 have hms16_1 := NB220_221.out
 have hms16_2 := NB220_222.out
 refine skip_ (w1 := ?_) (by rfl) rfl ?_ ?_
 rotate_left
 ·go_simp
  rfl
 refine hK.out _ _ ?_
 clear hK K
 refine last_ (i := 5) (N := none) #[true, true, true, true, true, true] rfl rfl (by kernel_rfl) (by decide) (fun K hK => ?_)
 have hs17 : w12.cell? ⟨gb221, 0, none⟩ = some (.int .i64 a1_0) := (blk_cell BK221.out 0).trans rfl
 have hfs17 := fz_ BK221 0
 have hns17_0 := NB220_221.out
 have hns17_2 := NB222_221.out
 have hms17_0 := NB221_220.out
 have hms17_2 := NB221_222.out
 have hs18 : w12.cell? ⟨gb221, 1, none⟩ = some (.bool a1_1) := (blk_cell BK221.out 1).trans rfl
 have hfs18 := fz_ BK221 1
 have hns18_0 := NB220_221.out
 have hns18_2 := NB222_221.out
 have hms18_0 := NB221_220.out
 have hms18_2 := NB221_222.out
 have hs19 : w12.cell? ⟨gb221, 2, none⟩ = some (.int .u64 a1_2) := (blk_cell BK221.out 2).trans rfl
 have hfs19 := fz_ BK221 2
 have hns19_0 := NB220_221.out
 have hns19_2 := NB222_221.out
 have hms19_0 := NB221_220.out
 have hms19_2 := NB221_222.out
 have hs20 : w12.cell? ⟨gb221, 3, none⟩ = some (.int .i64 a1_3) := (blk_cell BK221.out 3).trans rfl
 have hfs20 := fz_ BK221 3
 have hns20_0 := NB220_221.out
 have hns20_2 := NB222_221.out
 have hms20_0 := NB221_220.out
 have hms20_2 := NB221_222.out
 refine skip_ (w1 := ?_) (by rfl) rfl ?_ ?_
 rotate_left
 ·go_simp
  rfl
 refine hK.out _ _ ?_
 clear hK K
 refine done_ (by kernel_rfl) ?_
 have hnb21 := NB220_221.out
 have hnc21 := NB221_220.out
 have hnb22 := NB220_222.out
 have hnc22 := NB222_220.out
 have hcz23_0 := cz_ BK220 0 rfl
 have hcz23_1 := cz_ BK220 1 rfl
 have hcz23_2 := cz_ BK220 2 rfl
 have hcz23_3 := cz_ BK220 3 rfl
 have hfz23_0 := fz_ BK220 0
 have hfz23_1 := fz_ BK220 1
 have hfz23_2 := fz_ BK220 2
 have hfz23_3 := fz_ BK220 3
 have hnb24 := NB221_222.out
 have hnc24 := NB222_221.out
 have hcz25_0 := cz_ BK221 0 rfl
 have hcz25_1 := cz_ BK221 1 rfl
 have hcz25_2 := cz_ BK221 2 rfl
 have hcz25_3 := cz_ BK221 3 rfl
 have hfz25_0 := fz_ BK221 0
 have hfz25_1 := fz_ BK221 1
 have hfz25_2 := fz_ BK221 2
 have hfz25_3 := fz_ BK221 3
 go_upto_region 3 with (fail)
 go_cut [20] (fun v20 wc => ∃ (kq : Nat) (x20_5 : Bool), v20 = .bool x20_5 ∧ Aside0 (arith_Mul.j0 kq a2 (t224 != t228) x20_5 t223 t224 t225 t226 t227 t228 t229 t230 = some (r1, r2, r3, r4)) ∧ Aside0 (kq ≤ k) ∧ Aside0 (wc.heap[gb220]? = some (.cells #[.int .i64 t223, .bool t224, .int .u64 t225, .int .i64 t226] 24 (0, 0))) ∧ Aside0 (wc.heap[gb221]? = some (.cells #[.int .i64 t227, .bool t228, .int .u64 t229, .int .i64 t230] 24 (0, 0))) ∧ Aside0 (wc.heap[gb222]? = some (.cells #[.int .i64 0, .bool false, .int .u64 0, .int .i64 0] 24 (0, 0))) ∧ Aside0 (Below w.heap.size w wc))
 case first =>
  have H := HC6.out
  clear HC6
  by_cases c26 : t223 = 0
  ·rw [if_pos c26] at H
   have c26b0 : (t223 == 0) = true := beq_iff_eq.mpr c26
   have c26b1 : (t223 != 0) = false := bne_eq_false_iff_eq.mpr c26
   clear c26
   (first | rw [c26b0] | (simp only [i64_w, i32_w]; rw [c26b0]) | skip)
   have H' := Aside0.mk H
   clear H
   have hnb27 := NB220_221.out
   have hnc27 := NB221_220.out
   have hnb28 := NB220_222.out
   have hnc28 := NB222_220.out
   have hcz29_0 := cz_ BK220 0 rfl
   have hcz29_1 := cz_ BK220 1 rfl
   have hcz29_2 := cz_ BK220 2 rfl
   have hcz29_3 := cz_ BK220 3 rfl
   have hfz29_0 := fz_ BK220 0
   have hfz29_1 := fz_ BK220 1
   have hfz29_2 := fz_ BK220 2
   have hfz29_3 := fz_ BK220 3
   go_wp2
   go_meet
   case rel => exact ⟨_, (true), (by first | rfl | (simp; done) | (simp [*]; done)), H', ⟨by first | omega | exact Nat.le_refl _⟩, ⟨by refine kb_ ?_; refine bf_ NB220_221 ?_; refine bf_ NB220_221 ?_; refine bf_ NB220_221 ?_; refine bf_ NB220_221 ?_; refine bp_ #[.int .i64 t223, .bool t224, .int .u64 t225, .int .i64 a0_3] 3 ?_; refine bp_ #[.int .i64 t223, .bool t224, .int .u64 a0_2, .int .i64 a0_3] 2 ?_; refine bp_ #[.int .i64 t223, .bool a0_1, .int .u64 a0_2, .int .i64 a0_3] 1 ?_; refine bp_ #[.int .i64 a0_0, .bool a0_1, .int .u64 a0_2, .int .i64 a0_3] 0 ?_; exact BK220.out⟩, ⟨by refine kb_ ?_; refine bp_ #[.int .i64 t227, .bool t228, .int .u64 t229, .int .i64 a1_3] 3 ?_; refine bp_ #[.int .i64 t227, .bool t228, .int .u64 a1_2, .int .i64 a1_3] 2 ?_; refine bp_ #[.int .i64 t227, .bool a1_1, .int .u64 a1_2, .int .i64 a1_3] 1 ?_; refine bp_ #[.int .i64 a1_0, .bool a1_1, .int .u64 a1_2, .int .i64 a1_3] 0 ?_; refine bf_ NB221_220 ?_; refine bf_ NB221_220 ?_; refine bf_ NB221_220 ?_; refine bf_ NB221_220 ?_; exact BK221.out⟩, ⟨by refine kb_ ?_; refine bf_ NB222_221 ?_; refine bf_ NB222_221 ?_; refine bf_ NB222_221 ?_; refine bf_ NB222_221 ?_; refine bf_ NB222_220 ?_; refine bf_ NB222_220 ?_; refine bf_ NB222_220 ?_; refine bf_ NB222_220 ?_; exact BK222.out⟩, ⟨bw_ HB.out⟩⟩
  ·rw [if_neg c26] at H
   have c26b0 : (t223 == 0) = false := beq_eq_false_iff_ne.mpr c26
   have c26b1 : (t223 != 0) = true := bne_iff_ne.mpr c26
   (first | rw [c26b0] | (simp only [i64_w, i32_w]; rw [c26b0]) | skip)
   have H' := Aside0.mk H
   clear H
   have hnb30 := NB220_221.out
   have hnc30 := NB221_220.out
   have hnb31 := NB220_222.out
   have hnc31 := NB222_220.out
   have hcz32_0 := cz_ BK220 0 rfl
   have hcz32_1 := cz_ BK220 1 rfl
   have hcz32_2 := cz_ BK220 2 rfl
   have hcz32_3 := cz_ BK220 3 rfl
   have hfz32_0 := fz_ BK220 0
   have hfz32_1 := fz_ BK220 1
   have hfz32_2 := fz_ BK220 2
   have hfz32_3 := fz_ BK220 3
   have hnb33 := NB221_222.out
   have hnc33 := NB222_221.out
   have hcz34_0 := cz_ BK221 0 rfl
   have hcz34_1 := cz_ BK221 1 rfl
   have hcz34_2 := cz_ BK221 2 rfl
   have hcz34_3 := cz_ BK221 3 rfl
   have hfz34_0 := fz_ BK221 0
   have hfz34_1 := fz_ BK221 1
   have hfz34_2 := fz_ BK221 2
   have hfz34_3 := fz_ BK221 3
   go_wp2
   go_meet
   case rel => exact ⟨_, ((t227 == 0)), (by first | rfl | (simp; done) | (simp [*]; done)), H', ⟨by first | omega | exact Nat.le_refl _⟩, ⟨by refine kb_ ?_; refine bf_ NB220_221 ?_; refine bf_ NB220_221 ?_; refine bf_ NB220_221 ?_; refine bf_ NB220_221 ?_; refine bp_ #[.int .i64 t223, .bool t224, .int .u64 t225, .int .i64 a0_3] 3 ?_; refine bp_ #[.int .i64 t223, .bool t224, .int .u64 a0_2, .int .i64 a0_3] 2 ?_; refine bp_ #[.int .i64 t223, .bool a0_1, .int .u64 a0_2, .int .i64 a0_3] 1 ?_; refine bp_ #[.int .i64 a0_0, .bool a0_1, .int .u64 a0_2, .int .i64 a0_3] 0 ?_; exact BK220.out⟩, ⟨by refine kb_ ?_; refine bp_ #[.int .i64 t227, .bool t228, .int .u64 t229, .int .i64 a1_3] 3 ?_; refine bp_ #[.int .i64 t227, .bool t228, .int .u64 a1_2, .int .i64 a1_3] 2 ?_; refine bp_ #[.int .i64 t227, .bool a1_1, .int .u64 a1_2, .int .i64 a1_3] 1 ?_; refine bp_ #[.int .i64 a1_0, .bool a1_1, .int .u64 a1_2, .int .i64 a1_3] 0 ?_; refine bf_ NB221_220 ?_; refine bf_ NB221_220 ?_; refine bf_ NB221_220 ?_; refine bf_ NB221_220 ?_; exact BK221.out⟩, ⟨by refine kb_ ?_; refine bf_ NB222_221 ?_; refine bf_ NB222_221 ?_; refine bf_ NB222_221 ?_; refine bf_ NB222_221 ?_; refine bf_ NB222_220 ?_; refine bf_ NB222_220 ?_; refine bf_ NB222_220 ?_; refine bf_ NB222_220 ?_; exact BK222.out⟩, ⟨bw_ HB.out⟩⟩
 case rest =>
  clear HC6
  try clear c1
  try clear c2
  try clear p2
  try clear c3
  try clear c13
  try clear c21
  try clear c22
  try clear c24
  try clear c26
  try clear c26b0
  try clear c26b1
  try clear c27
  try clear c28
  try clear c30
  try clear c31
  try clear c33
  try clear hcz23_0
  try clear hcz23_1
  try clear hcz23_2
  try clear hcz23_3
  try clear hcz25_0
  try clear hcz25_1
  try clear hcz25_2
  try clear hcz25_3
  try clear hcz29_0
  try clear hcz29_1
  try clear hcz29_2
  try clear hcz29_3
  try clear hcz32_0
  try clear hcz32_1
  try clear hcz32_2
  try clear hcz32_3
  try clear hcz34_0
  try clear hcz34_1
  try clear hcz34_2
  try clear hcz34_3
  try clear hfz23_0
  try clear hfz23_1
  try clear hfz23_2
  try clear hfz23_3
  try clear hfz25_0
  try clear hfz25_1
  try clear hfz25_2
  try clear hfz25_3
  try clear hfz29_0
  try clear hfz29_1
  try clear hfz29_2
  try clear hfz29_3
  try clear hfz32_0
  try clear hfz32_1
  try clear hfz32_2
  try clear hfz32_3
  try clear hfz34_0
  try clear hfz34_1
  try clear hfz34_2
  try clear hfz34_3
  obtain ⟨kq, x20_5, rfl, HA, HJ5, BK220, BK221, BK222, HB⟩ := hcut
  cases kq with
  | zero => exact absurd HA.out (by simp [arith_Mul.j0])
  | succ kj5 =>
   have H := HA.out
   clear HA
   simp only [arith_Mul.j0] at H
   by_cases c35 : x20_5 = true
   ·subst c35
    have H1 : (some (0, false, 0, 0)) = some (r1, r2, r3, r4) := by rw [if_pos rfl] at H; exact H
    clear H
    have H := H1
    clear H1
    simp only [Option.some.injEq, Prod.mk.injEq] at H
    obtain ⟨rfl, rfl, rfl, rfl⟩ := H
    have hnb36 := NB222_220.out
    have hnc36 := NB220_222.out
    have hnb37 := NB222_221.out
    have hnc37 := NB221_222.out
    have hcz38_0 := cz_ BK222 0 rfl
    have hcz38_1 := cz_ BK222 1 rfl
    have hcz38_2 := cz_ BK222 2 rfl
    have hcz38_3 := cz_ BK222 3 rfl
    have hfz38_0 := fz_ BK222 0
    have hfz38_1 := fz_ BK222 1
    have hfz38_2 := fz_ BK222 2
    have hfz38_3 := fz_ BK222 3
    go_wp2
    refine bodyPost_ret (results_cell_row rfl _ _ gb222 24 #[.int .i64 0, .bool false, .int .u64 0, .int .i64 0] (0, 0) _ rfl (by refine kb_ ?_; refine bp_ #[.int .i64 0, .bool false, .int .u64 0, .int .i64 0] 3 ?_; refine bp_ #[.int .i64 0, .bool false, .int .u64 0, .int .i64 0] 2 ?_; refine bp_ #[.int .i64 0, .bool false, .int .u64 0, .int .i64 0] 1 ?_; refine bp_ #[.int .i64 0, .bool false, .int .u64 0, .int .i64 0] 0 ?_; exact BK222.out) Try.underlying24 rfl (by kernel_rfl)) rfl ?_
    exact ⟨by first | rfl | (simp [errW_none, errW_some] <;> rfl) | (simp [*, errW_none, errW_some] <;> rfl), bw_ HB.out⟩
   ·replace c35 := Bool.eq_false_iff.mpr c35
    subst c35
    have H1 : (if t223 = 2 then ((num_Infinite.f (t224 != t228)).bind fun bt231 => (some (bt231.1, bt231.2.1, bt231.2.2.1, bt231.2.2.2))) else (if t227 = 2 then ((num_Infinite.f (t224 != t228)).bind fun bt235 => (some (bt235.1, bt235.2.1, bt235.2.2.1, bt235.2.2.2))) else ((bits_Mul64.f t225 t229).bind fun bt239 => (if bt239.1 < 9223372036854775808 then ((num_Grow.f kj5 (t224 != t228) (Go.bits .or .u64 (IntKind.u64.wrap (bt239.1 * 2)) (bt239.2 / 9223372036854775808)) (wrap64 ((wrap64 ((wrap64 (t226 + t230)) + 64)) - 1)) ((IntKind.u64.wrap (bt239.2 * 2)) != 0) (a2 != (t224 != t228))).bind fun bt241 => (some (bt241.1, bt241.2.1, bt241.2.2.1, bt241.2.2.2))) else ((num_Grow.f kj5 (t224 != t228) bt239.1 (wrap64 ((wrap64 (t226 + t230)) + 64)) (bt239.2 != 0) (a2 != (t224 != t228))).bind fun bt245 => (some (bt245.1, bt245.2.1, bt245.2.2.1, bt245.2.2.2))))))) = some (r1, r2, r3, r4) := by rw [if_neg (show ¬ (false = true) by decide)] at H; exact H
    clear H
    have H := H1
    clear H1
    by_cases c39 : t223 = 2
    ·rw [if_pos c39] at H
     have c39b0 : (t223 == 2) = true := beq_iff_eq.mpr c39
     have c39b1 : (t223 != 2) = false := bne_eq_false_iff_eq.mpr c39
     clear c39
     replace H := Option.bind_eq_some_iff.mp H
     obtain ⟨⟨t231, t232, t233, t234⟩, A400, H⟩ := H
     (try dsimp only at H)
     have A40 := Aside0.mk A400
     clear A400
     simp only [Option.some.injEq, Prod.mk.injEq] at H
     obtain ⟨rfl, rfl, rfl, rfl⟩ := H
     have hnb41 := NB220_221.out
     have hnc41 := NB221_220.out
     have hnb42 := NB220_222.out
     have hnc42 := NB222_220.out
     have hcz43_0 := cz_ BK220 0 rfl
     have hcz43_1 := cz_ BK220 1 rfl
     have hcz43_2 := cz_ BK220 2 rfl
     have hcz43_3 := cz_ BK220 3 rfl
     have hfz43_0 := fz_ BK220 0
     have hfz43_1 := fz_ BK220 1
     have hfz43_2 := fz_ BK220 2
     have hfz43_3 := fz_ BK220 3
     go_wp2_with (first | ((with_reducible refine gate_callee (f := 30) rfl ?_); refine gl_ (some 40) Try.func30 #[.bool (t224 != t228)] ?_; (with_reducible refine (num_Infinite.calls (t224 != t228) t231 t232 t233 t234 _ A40.out).mono ?_); rintro e w44 ⟨rfl, hb⟩; refine ⟨_, rfl, ?_⟩; have n0_ := kq_ BK220 hb; have n1_ := kq_ BK221 hb; have n2_ := kq_ BK222 hb; have n3_ := bq_ HB hb; clear BK220; clear BK221; clear BK222; clear HB; have BK220 := n0_; have BK221 := n1_; have BK222 := n2_; have HB := n3_; clear n0_ n1_ n2_ n3_; (try clear hb); (try clear hb2); (try clear hk); (try clear hi); have hnb45 := NB222_221.out; have hnc45 := NB221_222.out; have hcz46_0 := cz_ BK222 0 rfl; have hcz46_1 := cz_ BK222 1 rfl; have hcz46_2 := cz_ BK222 2 rfl; have hcz46_3 := cz_ BK222 3 rfl; have hfz46_0 := fz_ BK222 0; have hfz46_1 := fz_ BK222 1; have hfz46_2 := fz_ BK222 2; have hfz46_3 := fz_ BK222 3))
     refine bodyPost_ret (results_cell_row rfl _ _ gb222 24 #[.int .i64 t231, .bool t232, .int .u64 t233, .int .i64 t234] (0, 0) _ rfl (by refine kb_ ?_; refine bp_ #[.int .i64 t231, .bool t232, .int .u64 t233, .int .i64 0] 3 ?_; refine bp_ #[.int .i64 t231, .bool t232, .int .u64 0, .int .i64 0] 2 ?_; refine bp_ #[.int .i64 t231, .bool false, .int .u64 0, .int .i64 0] 1 ?_; refine bp_ #[.int .i64 0, .bool false, .int .u64 0, .int .i64 0] 0 ?_; exact BK222.out) Try.underlying24 rfl (by kernel_rfl)) rfl ?_
     exact ⟨by first | rfl | (simp [errW_none, errW_some] <;> rfl) | (simp [*, errW_none, errW_some] <;> rfl), bw_ HB.out⟩
    ·rw [if_neg c39] at H
     have c39b0 : (t223 == 2) = false := beq_eq_false_iff_ne.mpr c39
     have c39b1 : (t223 != 2) = true := bne_iff_ne.mpr c39
     by_cases c47 : t227 = 2
     ·rw [if_pos c47] at H
      have c47b0 : (t227 == 2) = true := beq_iff_eq.mpr c47
      have c47b1 : (t227 != 2) = false := bne_eq_false_iff_eq.mpr c47
      clear c47
      replace H := Option.bind_eq_some_iff.mp H
      obtain ⟨⟨t235, t236, t237, t238⟩, A480, H⟩ := H
      (try dsimp only at H)
      have A48 := Aside0.mk A480
      clear A480
      simp only [Option.some.injEq, Prod.mk.injEq] at H
      obtain ⟨rfl, rfl, rfl, rfl⟩ := H
      have hnb49 := NB220_221.out
      have hnc49 := NB221_220.out
      have hnb50 := NB220_222.out
      have hnc50 := NB222_220.out
      have hcz51_0 := cz_ BK220 0 rfl
      have hcz51_1 := cz_ BK220 1 rfl
      have hcz51_2 := cz_ BK220 2 rfl
      have hcz51_3 := cz_ BK220 3 rfl
      have hfz51_0 := fz_ BK220 0
      have hfz51_1 := fz_ BK220 1
      have hfz51_2 := fz_ BK220 2
      have hfz51_3 := fz_ BK220 3
      have hnb52 := NB221_222.out
      have hnc52 := NB222_221.out
      have hcz53_0 := cz_ BK221 0 rfl
      have hcz53_1 := cz_ BK221 1 rfl
      have hcz53_2 := cz_ BK221 2 rfl
      have hcz53_3 := cz_ BK221 3 rfl
      have hfz53_0 := fz_ BK221 0
      have hfz53_1 := fz_ BK221 1
      have hfz53_2 := fz_ BK221 2
      have hfz53_3 := fz_ BK221 3
      go_wp2_with (first | ((with_reducible refine gate_callee (f := 30) rfl ?_); refine gl_ (some 40) Try.func30 #[.bool (t224 != t228)] ?_; (with_reducible refine (num_Infinite.calls (t224 != t228) t235 t236 t237 t238 _ A48.out).mono ?_); rintro e w54 ⟨rfl, hb⟩; refine ⟨_, rfl, ?_⟩; have n0_ := kq_ BK220 hb; have n1_ := kq_ BK221 hb; have n2_ := kq_ BK222 hb; have n3_ := bq_ HB hb; clear BK220; clear BK221; clear BK222; clear HB; have BK220 := n0_; have BK221 := n1_; have BK222 := n2_; have HB := n3_; clear n0_ n1_ n2_ n3_; (try clear hb); (try clear hb2); (try clear hk); (try clear hi); have hcz55_0 := cz_ BK222 0 rfl; have hcz55_1 := cz_ BK222 1 rfl; have hcz55_2 := cz_ BK222 2 rfl; have hcz55_3 := cz_ BK222 3 rfl; have hfz55_0 := fz_ BK222 0; have hfz55_1 := fz_ BK222 1; have hfz55_2 := fz_ BK222 2; have hfz55_3 := fz_ BK222 3))
      refine bodyPost_ret (results_cell_row rfl _ _ gb222 24 #[.int .i64 t235, .bool t236, .int .u64 t237, .int .i64 t238] (0, 0) _ rfl (by refine kb_ ?_; refine bp_ #[.int .i64 t235, .bool t236, .int .u64 t237, .int .i64 0] 3 ?_; refine bp_ #[.int .i64 t235, .bool t236, .int .u64 0, .int .i64 0] 2 ?_; refine bp_ #[.int .i64 t235, .bool false, .int .u64 0, .int .i64 0] 1 ?_; refine bp_ #[.int .i64 0, .bool false, .int .u64 0, .int .i64 0] 0 ?_; exact BK222.out) Try.underlying24 rfl (by kernel_rfl)) rfl ?_
      exact ⟨by first | rfl | (simp [errW_none, errW_some] <;> rfl) | (simp [*, errW_none, errW_some] <;> rfl), bw_ HB.out⟩
     ·rw [if_neg c47] at H
      have c47b0 : (t227 == 2) = false := beq_eq_false_iff_ne.mpr c47
      have c47b1 : (t227 != 2) = true := bne_iff_ne.mpr c47
      replace H := Option.bind_eq_some_iff.mp H
      obtain ⟨⟨t239, t240⟩, A560, H⟩ := H
      (try dsimp only at H)
      have A56 := Aside0.mk A560
      clear A560
      by_cases c57 : t239 < 9223372036854775808
      ·rw [if_pos c57] at H
       have c57b0 : decide (t239 < 9223372036854775808) = true := decide_eq_true c57
       clear c57
       replace H := Option.bind_eq_some_iff.mp H
       obtain ⟨⟨t241, t242, t243, t244⟩, A580, H⟩ := H
       (try dsimp only at H)
       have A58 := Aside0.mk A580
       clear A580
       simp only [Option.some.injEq, Prod.mk.injEq] at H
       obtain ⟨rfl, rfl, rfl, rfl⟩ := H
       have hnb59 := NB220_221.out
       have hnc59 := NB221_220.out
       have hnb60 := NB220_222.out
       have hnc60 := NB222_220.out
       have hcz61_0 := cz_ BK220 0 rfl
       have hcz61_1 := cz_ BK220 1 rfl
       have hcz61_2 := cz_ BK220 2 rfl
       have hcz61_3 := cz_ BK220 3 rfl
       have hfz61_0 := fz_ BK220 0
       have hfz61_1 := fz_ BK220 1
       have hfz61_2 := fz_ BK220 2
       have hfz61_3 := fz_ BK220 3
       have hnb62 := NB221_222.out
       have hnc62 := NB222_221.out
       have hcz63_0 := cz_ BK221 0 rfl
       have hcz63_1 := cz_ BK221 1 rfl
       have hcz63_2 := cz_ BK221 2 rfl
       have hcz63_3 := cz_ BK221 3 rfl
       have hfz63_0 := fz_ BK221 0
       have hfz63_1 := fz_ BK221 1
       have hfz63_2 := fz_ BK221 2
       have hfz63_3 := fz_ BK221 3
       go_wp2_with (first | ((with_reducible refine gate_callee (f := 35) rfl ?_); refine gl_ (some 46) Try.func35 #[.int .u64 t225, .int .u64 t229] ?_; (with_reducible refine (bits_Mul64.calls t225 t229 t239 t240 _ A56.out).mono ?_); rintro e w' ⟨rfl, ⟨nd, rfl⟩⟩; refine ⟨_, rfl, ?_⟩; (try (rw [drewN_self wc]; generalize hq_ : World.drewN wc _ = wc; have n0_ : Aside0 (wc.heap[gb220]? = some (.cells #[.int .i64 t223, .bool t224, .int .u64 t225, .int .i64 t226] 24 (0, 0))) := ⟨by rw [← hq_]; exact (kb_ BK220.out)⟩; have n1_ : Aside0 (wc.heap[gb221]? = some (.cells #[.int .i64 t227, .bool t228, .int .u64 t229, .int .i64 t230] 24 (0, 0))) := ⟨by rw [← hq_]; exact (kb_ BK221.out)⟩; have n2_ : Aside0 (wc.heap[gb222]? = some (.cells #[.int .i64 0, .bool false, .int .u64 0, .int .i64 0] 24 (0, 0))) := ⟨by rw [← hq_]; exact (kb_ BK222.out)⟩; have n3_ : Aside0 (Below w.heap.size w wc) := ⟨by rw [← hq_]; exact (bw_ HB.out)⟩; clear BK220 BK221 BK222 HB hq_; have BK220 := n0_; have BK221 := n1_; have BK222 := n2_; have HB := n3_; clear n0_ n1_ n2_ n3_)); (try (have hcz61_0 := cz_ BK220 0 rfl; have hcz61_1 := cz_ BK220 1 rfl; have hcz61_2 := cz_ BK220 2 rfl; have hcz61_3 := cz_ BK220 3 rfl; have hfz61_0 := fz_ BK220 0; have hfz61_1 := fz_ BK220 1; have hfz61_2 := fz_ BK220 2; have hfz61_3 := fz_ BK220 3; have hcz63_0 := cz_ BK221 0 rfl; have hcz63_1 := cz_ BK221 1 rfl; have hcz63_2 := cz_ BK221 2 rfl; have hcz63_3 := cz_ BK221 3 rfl; have hfz63_0 := fz_ BK221 0; have hfz63_1 := fz_ BK221 1; have hfz63_2 := fz_ BK221 2; have hfz63_3 := fz_ BK221 3))) | ((with_reducible refine gate_callee (f := 36) rfl ?_); refine gl_ (some 74) Try.func36 #[.bool (t224 != t228), .int .u64 (Go.bits .or .u64 (IntKind.u64.wrap (t239 * 2)) (t240 / 9223372036854775808)), .int .i64 (wrap64 ((wrap64 ((wrap64 (t226 + t230)) + 64)) - 1)), .bool ((IntKind.u64.wrap (t240 * 2)) != 0), .bool (a2 != (t224 != t228))] ?_; (with_reducible refine (num_Grow.calls kj5 (t224 != t228) (Go.bits .or .u64 (IntKind.u64.wrap (t239 * 2)) (t240 / 9223372036854775808)) (wrap64 ((wrap64 ((wrap64 (t226 + t230)) + 64)) - 1)) ((IntKind.u64.wrap (t240 * 2)) != 0) (a2 != (t224 != t228)) t241 t242 t243 t244 _ A58.out).mono ?_); rintro e w64 ⟨rfl, hb⟩; refine ⟨_, rfl, ?_⟩; have n0_ := kq_ BK220 hb; have n1_ := kq_ BK221 hb; have n2_ := kq_ BK222 hb; have n3_ := bq_ HB hb; clear BK220; clear BK221; clear BK222; clear HB; have BK220 := n0_; have BK221 := n1_; have BK222 := n2_; have HB := n3_; clear n0_ n1_ n2_ n3_; (try clear hb); (try clear hb2); (try clear hk); (try clear hi); have hcz65_0 := cz_ BK222 0 rfl; have hcz65_1 := cz_ BK222 1 rfl; have hcz65_2 := cz_ BK222 2 rfl; have hcz65_3 := cz_ BK222 3 rfl; have hfz65_0 := fz_ BK222 0; have hfz65_1 := fz_ BK222 1; have hfz65_2 := fz_ BK222 2; have hfz65_3 := fz_ BK222 3))
       refine bodyPost_ret (results_cell_row rfl _ _ gb222 24 #[.int .i64 t241, .bool t242, .int .u64 t243, .int .i64 t244] (0, 0) _ rfl (by refine kb_ ?_; refine bp_ #[.int .i64 t241, .bool t242, .int .u64 t243, .int .i64 0] 3 ?_; refine bp_ #[.int .i64 t241, .bool t242, .int .u64 0, .int .i64 0] 2 ?_; refine bp_ #[.int .i64 t241, .bool false, .int .u64 0, .int .i64 0] 1 ?_; refine bp_ #[.int .i64 0, .bool false, .int .u64 0, .int .i64 0] 0 ?_; exact BK222.out) Try.underlying24 rfl (by kernel_rfl)) rfl ?_
       exact ⟨by first | rfl | (simp [errW_none, errW_some] <;> rfl) | (simp [*, errW_none, errW_some] <;> rfl), bw_ HB.out⟩
      ·rw [if_neg c57] at H
       have c57b0 : decide (t239 < 9223372036854775808) = false := decide_eq_false c57
       clear c57
       replace H := Option.bind_eq_some_iff.mp H
       obtain ⟨⟨t245, t246, t247, t248⟩, A660, H⟩ := H
       (try dsimp only at H)
       have A66 := Aside0.mk A660
       clear A660
       simp only [Option.some.injEq, Prod.mk.injEq] at H
       obtain ⟨rfl, rfl, rfl, rfl⟩ := H
       have hnb67 := NB220_221.out
       have hnc67 := NB221_220.out
       have hnb68 := NB220_222.out
       have hnc68 := NB222_220.out
       have hcz69_0 := cz_ BK220 0 rfl
       have hcz69_1 := cz_ BK220 1 rfl
       have hcz69_2 := cz_ BK220 2 rfl
       have hcz69_3 := cz_ BK220 3 rfl
       have hfz69_0 := fz_ BK220 0
       have hfz69_1 := fz_ BK220 1
       have hfz69_2 := fz_ BK220 2
       have hfz69_3 := fz_ BK220 3
       have hnb70 := NB221_222.out
       have hnc70 := NB222_221.out
       have hcz71_0 := cz_ BK221 0 rfl
       have hcz71_1 := cz_ BK221 1 rfl
       have hcz71_2 := cz_ BK221 2 rfl
       have hcz71_3 := cz_ BK221 3 rfl
       have hfz71_0 := fz_ BK221 0
       have hfz71_1 := fz_ BK221 1
       have hfz71_2 := fz_ BK221 2
       have hfz71_3 := fz_ BK221 3
       go_wp2_with (first | ((with_reducible refine gate_callee (f := 35) rfl ?_); refine gl_ (some 46) Try.func35 #[.int .u64 t225, .int .u64 t229] ?_; (with_reducible refine (bits_Mul64.calls t225 t229 t239 t240 _ A56.out).mono ?_); rintro e w' ⟨rfl, ⟨nd, rfl⟩⟩; refine ⟨_, rfl, ?_⟩; (try (rw [drewN_self wc]; generalize hq_ : World.drewN wc _ = wc; have n0_ : Aside0 (wc.heap[gb220]? = some (.cells #[.int .i64 t223, .bool t224, .int .u64 t225, .int .i64 t226] 24 (0, 0))) := ⟨by rw [← hq_]; exact (kb_ BK220.out)⟩; have n1_ : Aside0 (wc.heap[gb221]? = some (.cells #[.int .i64 t227, .bool t228, .int .u64 t229, .int .i64 t230] 24 (0, 0))) := ⟨by rw [← hq_]; exact (kb_ BK221.out)⟩; have n2_ : Aside0 (wc.heap[gb222]? = some (.cells #[.int .i64 0, .bool false, .int .u64 0, .int .i64 0] 24 (0, 0))) := ⟨by rw [← hq_]; exact (kb_ BK222.out)⟩; have n3_ : Aside0 (Below w.heap.size w wc) := ⟨by rw [← hq_]; exact (bw_ HB.out)⟩; clear BK220 BK221 BK222 HB hq_; have BK220 := n0_; have BK221 := n1_; have BK222 := n2_; have HB := n3_; clear n0_ n1_ n2_ n3_)); (try (have hcz69_0 := cz_ BK220 0 rfl; have hcz69_1 := cz_ BK220 1 rfl; have hcz69_2 := cz_ BK220 2 rfl; have hcz69_3 := cz_ BK220 3 rfl; have hfz69_0 := fz_ BK220 0; have hfz69_1 := fz_ BK220 1; have hfz69_2 := fz_ BK220 2; have hfz69_3 := fz_ BK220 3; have hcz71_0 := cz_ BK221 0 rfl; have hcz71_1 := cz_ BK221 1 rfl; have hcz71_2 := cz_ BK221 2 rfl; have hcz71_3 := cz_ BK221 3 rfl; have hfz71_0 := fz_ BK221 0; have hfz71_1 := fz_ BK221 1; have hfz71_2 := fz_ BK221 2; have hfz71_3 := fz_ BK221 3))) | ((with_reducible refine gate_callee (f := 36) rfl ?_); refine gl_ (some 74) Try.func36 #[.bool (t224 != t228), .int .u64 t239, .int .i64 (wrap64 ((wrap64 (t226 + t230)) + 64)), .bool (t240 != 0), .bool (a2 != (t224 != t228))] ?_; (with_reducible refine (num_Grow.calls kj5 (t224 != t228) t239 (wrap64 ((wrap64 (t226 + t230)) + 64)) (t240 != 0) (a2 != (t224 != t228)) t245 t246 t247 t248 _ A66.out).mono ?_); rintro e w72 ⟨rfl, hb⟩; refine ⟨_, rfl, ?_⟩; have n0_ := kq_ BK220 hb; have n1_ := kq_ BK221 hb; have n2_ := kq_ BK222 hb; have n3_ := bq_ HB hb; clear BK220; clear BK221; clear BK222; clear HB; have BK220 := n0_; have BK221 := n1_; have BK222 := n2_; have HB := n3_; clear n0_ n1_ n2_ n3_; (try clear hb); (try clear hb2); (try clear hk); (try clear hi); have hcz73_0 := cz_ BK222 0 rfl; have hcz73_1 := cz_ BK222 1 rfl; have hcz73_2 := cz_ BK222 2 rfl; have hcz73_3 := cz_ BK222 3 rfl; have hfz73_0 := fz_ BK222 0; have hfz73_1 := fz_ BK222 1; have hfz73_2 := fz_ BK222 2; have hfz73_3 := fz_ BK222 3))
       refine bodyPost_ret (results_cell_row rfl _ _ gb222 24 #[.int .i64 t245, .bool t246, .int .u64 t247, .int .i64 t248] (0, 0) _ rfl (by refine kb_ ?_; refine bp_ #[.int .i64 t245, .bool t246, .int .u64 t247, .int .i64 0] 3 ?_; refine bp_ #[.int .i64 t245, .bool t246, .int .u64 0, .int .i64 0] 2 ?_; refine bp_ #[.int .i64 t245, .bool false, .int .u64 0, .int .i64 0] 1 ?_; refine bp_ #[.int .i64 0, .bool false, .int .u64 0, .int .i64 0] 0 ?_; exact BK222.out) Try.underlying24 rfl (by kernel_rfl)) rfl ?_
       exact ⟨by first | rfl | (simp [errW_none, errW_some] <;> rfl) | (simp [*, errW_none, errW_some] <;> rfl), bw_ HB.out⟩

/-! ### num_fair: function 34 -/
set_option maxHeartbeats 8000000 in
set_option maxRecDepth 100000 in
theorem num_fair.calls (a0_0 : Int) (a0_1 : Bool) (a0_2 : Int) (a0_3 : Int) (r1 : Int) (r2 : Bool) (r3 : Int) (r4 : Int) (w : World) (h : num_fair.f a0_0 a0_1 a0_2 a0_3 = some (r1, r2, r3, r4)) :
  Calls Try.prog 34 #[.agg #[.int .i64 a0_0, .bool a0_1, .int .u64 a0_2, .int .i64 a0_3]] w fun e w' => e = .returned (.agg #[.int .i64 r1, .bool r2, .int .u64 r3, .int .i64 r4]) ∧ Below w.heap.size w w' := by
 have hu24 := Try.underlying24
 have HB := Aside0.mk (Below.refl w.heap.size w)
 have H : ((num_May.f a0_0 a0_1 a0_2 a0_3).bind fun t251 => (if t251 = true then (some (a0_0, a0_1, a0_2, a0_3)) else (some (0, false, 0, 0)))) = some (r1, r2, r3, r4) := h
 clear h
 replace H := Option.bind_eq_some_iff.mp H
 obtain ⟨t251, A20, H⟩ := H
 (try dsimp only at H)
 have A2 := Aside0.mk A20
 clear A20
 by_cases c3 : t251 = true
 ·subst c3
  have H1 : (some (a0_0, a0_1, a0_2, a0_3)) = some (r1, r2, r3, r4) := by rw [if_pos rfl] at H; exact H
  clear H
  have H := H1
  clear H1
  simp only [Option.some.injEq, Prod.mk.injEq] at H
  obtain ⟨rfl, rfl, rfl, rfl⟩ := H
  go_enter Try.func34, Try.ntmps34
  go_wp2_with (first | ((with_reducible refine gate_dst (N := 1) rfl ?_); refine bx_ 1 #[.int .i64 a0_0, .bool a0_1, .int .u64 a0_2, .int .i64 a0_3] 24 ?_; intro gb249 hg w4 hbox hb; have n0_ := bq_ HB hb; have n1_ := Aside0.mk (hbox); have n2_ := ge_ hg HB; have n3_ := ge_ hg HB; clear HB; have HB := n0_; have BK249 := n1_; have GW249 := n2_; have GE249 := n3_; clear n0_ n1_ n2_ n3_; clear hb hbox hg) | ((with_reducible refine gate_dst (N := 2) rfl ?_); refine bx_ 2 #[.int .i64 0, .bool false, .int .u64 0, .int .i64 0] 24 ?_; intro gb250 hg w5 hbox hb; have n0_ := kq_ BK249 hb; have n1_ := bq_ HB hb; have n2_ := Aside0.mk (hbox); have n3_ := ge_ hg HB; have n4_ := ge_ hg HB; have n5_ := nb_ hg BK249; have n6_ := nc_ hg BK249; clear BK249; clear HB; have BK249 := n0_; have HB := n1_; have BK250 := n2_; have GW250 := n3_; have GE250 := n4_; have NB249_250 := n5_; have NB250_249 := n6_; clear n0_ n1_ n2_ n3_ n4_ n5_ n6_; clear hb hbox hg; have hnb6 := NB249_250.out; have hnc6 := NB250_249.out; have hcz7_0 := cz_ BK249 0 rfl; have hcz7_1 := cz_ BK249 1 rfl; have hcz7_2 := cz_ BK249 2 rfl; have hcz7_3 := cz_ BK249 3 rfl; have hfz7_0 := fz_ BK249 0; have hfz7_1 := fz_ BK249 1; have hfz7_2 := fz_ BK249 2; have hfz7_3 := fz_ BK249 3) | ((with_reducible refine gate_callee (f := 18) rfl ?_); refine gl_ (some 4) Try.func18 #[.agg #[.int .i64 a0_0, .bool a0_1, .int .u64 a0_2, .int .i64 a0_3]] ?_; (with_reducible refine (num_May.calls a0_0 a0_1 a0_2 a0_3 true _ A2.out).mono ?_); rintro e w8 ⟨rfl, hb⟩; refine ⟨_, rfl, ?_⟩; have n0_ := kq_ BK249 hb; have n1_ := kq_ BK250 hb; have n2_ := bq_ HB hb; clear BK249; clear BK250; clear HB; have BK249 := n0_; have BK250 := n1_; have HB := n2_; clear n0_ n1_ n2_; (try clear hb); (try clear hb2); (try clear hk); (try clear hi); have hcz9_0 := cz_ BK249 0 rfl; have hcz9_1 := cz_ BK249 1 rfl; have hcz9_2 := cz_ BK249 2 rfl; have hcz9_3 := cz_ BK249 3 rfl; have hfz9_0 := fz_ BK249 0; have hfz9_1 := fz_ BK249 1; have hfz9_2 := fz_ BK249 2; have hfz9_3 := fz_ BK249 3; have hcz10_0 := cz_ BK250 0 rfl; have hcz10_1 := cz_ BK250 1 rfl; have hcz10_2 := cz_ BK250 2 rfl; have hcz10_3 := cz_ BK250 3 rfl; have hfz10_0 := fz_ BK250 0; have hfz10_1 := fz_ BK250 1; have hfz10_2 := fz_ BK250 2; have hfz10_3 := fz_ BK250 3))
  refine bodyPost_ret (results_cell_row rfl _ _ gb250 24 #[.int .i64 a0_0, .bool a0_1, .int .u64 a0_2, .int .i64 a0_3] (0, 0) _ rfl (by refine kb_ ?_; refine bp_ #[.int .i64 a0_0, .bool a0_1, .int .u64 a0_2, .int .i64 0] 3 ?_; refine bp_ #[.int .i64 a0_0, .bool a0_1, .int .u64 0, .int .i64 0] 2 ?_; refine bp_ #[.int .i64 a0_0, .bool false, .int .u64 0, .int .i64 0] 1 ?_; refine bp_ #[.int .i64 0, .bool false, .int .u64 0, .int .i64 0] 0 ?_; exact BK250.out) Try.underlying24 rfl (by kernel_rfl)) rfl ?_
  exact ⟨by first | rfl | (simp [errW_none, errW_some] <;> rfl) | (simp [*, errW_none, errW_some] <;> rfl), bw_ HB.out⟩
 ·replace c3 := Bool.eq_false_iff.mpr c3
  subst c3
  have H1 : (some (0, false, 0, 0)) = some (r1, r2, r3, r4) := by rw [if_neg (show ¬ (false = true) by decide)] at H; exact H
  clear H
  have H := H1
  clear H1
  simp only [Option.some.injEq, Prod.mk.injEq] at H
  obtain ⟨rfl, rfl, rfl, rfl⟩ := H
  go_enter Try.func34, Try.ntmps34
  go_wp2_with (first | ((with_reducible refine gate_dst (N := 1) rfl ?_); refine bx_ 1 #[.int .i64 a0_0, .bool a0_1, .int .u64 a0_2, .int .i64 a0_3] 24 ?_; intro gb249 hg w11 hbox hb; have n0_ := bq_ HB hb; have n1_ := Aside0.mk (hbox); have n2_ := ge_ hg HB; have n3_ := ge_ hg HB; clear HB; have HB := n0_; have BK249 := n1_; have GW249 := n2_; have GE249 := n3_; clear n0_ n1_ n2_ n3_; clear hb hbox hg) | ((with_reducible refine gate_dst (N := 2) rfl ?_); refine bx_ 2 #[.int .i64 0, .bool false, .int .u64 0, .int .i64 0] 24 ?_; intro gb250 hg w12 hbox hb; have n0_ := kq_ BK249 hb; have n1_ := bq_ HB hb; have n2_ := Aside0.mk (hbox); have n3_ := ge_ hg HB; have n4_ := ge_ hg HB; have n5_ := nb_ hg BK249; have n6_ := nc_ hg BK249; clear BK249; clear HB; have BK249 := n0_; have HB := n1_; have BK250 := n2_; have GW250 := n3_; have GE250 := n4_; have NB249_250 := n5_; have NB250_249 := n6_; clear n0_ n1_ n2_ n3_ n4_ n5_ n6_; clear hb hbox hg; have hnb13 := NB249_250.out; have hnc13 := NB250_249.out; have hcz14_0 := cz_ BK249 0 rfl; have hcz14_1 := cz_ BK249 1 rfl; have hcz14_2 := cz_ BK249 2 rfl; have hcz14_3 := cz_ BK249 3 rfl; have hfz14_0 := fz_ BK249 0; have hfz14_1 := fz_ BK249 1; have hfz14_2 := fz_ BK249 2; have hfz14_3 := fz_ BK249 3) | ((with_reducible refine gate_callee (f := 18) rfl ?_); refine gl_ (some 4) Try.func18 #[.agg #[.int .i64 a0_0, .bool a0_1, .int .u64 a0_2, .int .i64 a0_3]] ?_; (with_reducible refine (num_May.calls a0_0 a0_1 a0_2 a0_3 false _ A2.out).mono ?_); rintro e w15 ⟨rfl, hb⟩; refine ⟨_, rfl, ?_⟩; have n0_ := kq_ BK249 hb; have n1_ := kq_ BK250 hb; have n2_ := bq_ HB hb; clear BK249; clear BK250; clear HB; have BK249 := n0_; have BK250 := n1_; have HB := n2_; clear n0_ n1_ n2_; (try clear hb); (try clear hb2); (try clear hk); (try clear hi); have hcz16_0 := cz_ BK250 0 rfl; have hcz16_1 := cz_ BK250 1 rfl; have hcz16_2 := cz_ BK250 2 rfl; have hcz16_3 := cz_ BK250 3 rfl; have hfz16_0 := fz_ BK250 0; have hfz16_1 := fz_ BK250 1; have hfz16_2 := fz_ BK250 2; have hfz16_3 := fz_ BK250 3))
  refine bodyPost_ret (results_cell_row rfl _ _ gb250 24 #[.int .i64 0, .bool false, .int .u64 0, .int .i64 0] (0, 0) _ rfl (by refine kb_ ?_; refine bp_ #[.int .i64 0, .bool false, .int .u64 0, .int .i64 0] 3 ?_; refine bp_ #[.int .i64 0, .bool false, .int .u64 0, .int .i64 0] 2 ?_; refine bp_ #[.int .i64 0, .bool false, .int .u64 0, .int .i64 0] 1 ?_; refine bp_ #[.int .i64 0, .bool false, .int .u64 0, .int .i64 0] 0 ?_; exact BK250.out) Try.underlying24 rfl (by kernel_rfl)) rfl ?_
  exact ⟨by first | rfl | (simp [errW_none, errW_some] <;> rfl) | (simp [*, errW_none, errW_some] <;> rfl), bw_ HB.out⟩

/-! ### num_Next: function 24 -/
set_option maxHeartbeats 8000000 in
set_option maxRecDepth 100000 in
theorem num_Next.calls (k : Nat) (a0_0 : Int) (a0_1 : Bool) (a0_2 : Int) (a0_3 : Int) (a1 : Bool) (r1 : Int) (r2 : Bool) (r3 : Int) (r4 : Int) (w : World) (h : num_Next.f k a0_0 a0_1 a0_2 a0_3 a1 = some (r1, r2, r3, r4)) :
  Calls Try.prog 24 #[.agg #[.int .i64 a0_0, .bool a0_1, .int .u64 a0_2, .int .i64 a0_3], .bool a1] w fun e w' => e = .returned (.agg #[.int .i64 r1, .bool r2, .int .u64 r3, .int .i64 r4]) ∧ Below w.heap.size w w' := by
 have hu24 := Try.underlying24
 have HB := Aside0.mk (Below.refl w.heap.size w)
 have H : ((num_fair.f a0_0 a0_1 a0_2 a0_3).bind fun bt254 => (if bt254.1 = 0 then ((num_tiny.f (!a1)).bind fun bt258 => (some (bt258.1, bt258.2.1, bt258.2.2.1, bt258.2.2.2))) else (if bt254.1 = 2 then (num_Next.j0 k a1 (bt254.2.1 == a1) bt254.1 bt254.2.1 bt254.2.2.1 bt254.2.2.2) else (num_Next.j0 k a1 false bt254.1 bt254.2.1 bt254.2.2.1 bt254.2.2.2)))) = some (r1, r2, r3, r4) := h
 clear h
 replace H := Option.bind_eq_some_iff.mp H
 obtain ⟨⟨t254, t255, t256, t257⟩, A30, H⟩ := H
 (try dsimp only at H)
 have A3 := Aside0.mk A30
 clear A30
 by_cases c4 : t254 = 0
 ·rw [if_pos c4] at H
  have c4b0 : (t254 == 0) = true := beq_iff_eq.mpr c4
  have c4b1 : (t254 != 0) = false := bne_eq_false_iff_eq.mpr c4
  clear c4
  replace H := Option.bind_eq_some_iff.mp H
  obtain ⟨⟨t258, t259, t260, t261⟩, A50, H⟩ := H
  (try dsimp only at H)
  have A5 := Aside0.mk A50
  clear A50
  simp only [Option.some.injEq, Prod.mk.injEq] at H
  obtain ⟨rfl, rfl, rfl, rfl⟩ := H
  go_enter Try.func24, Try.ntmps24
  go_wp2_with (first | ((with_reducible refine gate_dst (N := 2) rfl ?_); refine bx_ 2 #[.int .i64 a0_0, .bool a0_1, .int .u64 a0_2, .int .i64 a0_3] 24 ?_; intro gb252 hg w6 hbox hb; have n0_ := bq_ HB hb; have n1_ := Aside0.mk (hbox); have n2_ := ge_ hg HB; have n3_ := ge_ hg HB; clear HB; have HB := n0_; have BK252 := n1_; have GW252 := n2_; have GE252 := n3_; clear n0_ n1_ n2_ n3_; clear hb hbox hg) | ((with_reducible refine gate_dst (N := 4) rfl ?_); refine bx_ 4 #[.int .i64 0, .bool false, .int .u64 0, .int .i64 0] 24 ?_; intro gb253 hg w7 hbox hb; have n0_ := kq_ BK252 hb; have n1_ := bq_ HB hb; have n2_ := Aside0.mk (hbox); have n3_ := ge_ hg HB; have n4_ := ge_ hg HB; have n5_ := nb_ hg BK252; have n6_ := nc_ hg BK252; clear BK252; clear HB; have BK252 := n0_; have HB := n1_; have BK253 := n2_; have GW253 := n3_; have GE253 := n4_; have NB252_253 := n5_; have NB253_252 := n6_; clear n0_ n1_ n2_ n3_ n4_ n5_ n6_; clear hb hbox hg; have hnb8 := NB252_253.out; have hnc8 := NB253_252.out; have hcz9_0 := cz_ BK252 0 rfl; have hcz9_1 := cz_ BK252 1 rfl; have hcz9_2 := cz_ BK252 2 rfl; have hcz9_3 := cz_ BK252 3 rfl; have hfz9_0 := fz_ BK252 0; have hfz9_1 := fz_ BK252 1; have hfz9_2 := fz_ BK252 2; have hfz9_3 := fz_ BK252 3) | ((with_reducible refine gate_callee (f := 34) rfl ?_); refine gl_ (some 6) Try.func34 #[.agg #[.int .i64 a0_0, .bool a0_1, .int .u64 a0_2, .int .i64 a0_3]] ?_; (with_reducible refine (num_fair.calls a0_0 a0_1 a0_2 a0_3 t254 t255 t256 t257 _ A3.out).mono ?_); rintro e w10 ⟨rfl, hb⟩; refine ⟨_, rfl, ?_⟩; have n0_ := kq_ BK252 hb; have n1_ := kq_ BK253 hb; have n2_ := bq_ HB hb; clear BK252; clear BK253; clear HB; have BK252 := n0_; have BK253 := n1_; have HB := n2_; clear n0_ n1_ n2_; (try clear hb); (try clear hb2); (try clear hk); (try clear hi); have hcz11_0 := cz_ BK252 0 rfl; have hcz11_1 := cz_ BK252 1 rfl; have hcz11_2 := cz_ BK252 2 rfl; have hcz11_3 := cz_ BK252 3 rfl; have hfz11_0 := fz_ BK252 0; have hfz11_1 := fz_ BK252 1; have hfz11_2 := fz_ BK252 2; have hfz11_3 := fz_ BK252 3) | ((with_reducible refine gate_callee (f := 45) rfl ?_); refine gl_ (some 13) Try.func45 #[.bool (!a1)] ?_; (with_reducible refine (num_tiny.calls (!a1) t258 t259 t260 t261 _ A5.out).mono ?_); rintro e w12 ⟨rfl, hb⟩; refine ⟨_, rfl, ?_⟩; have n0_ := Aside0.mk (blk_below (g := gb252) (o := .cells #[.int .i64 t254, .bool t255, .int .u64 t256, .int .i64 t257] 24 (0, 0)) (by refine kb_ ?_; refine bp_ #[.int .i64 t254, .bool t255, .int .u64 t256, .int .i64 a0_3] 3 ?_; refine bp_ #[.int .i64 t254, .bool t255, .int .u64 a0_2, .int .i64 a0_3] 2 ?_; refine bp_ #[.int .i64 t254, .bool a0_1, .int .u64 a0_2, .int .i64 a0_3] 1 ?_; refine bp_ #[.int .i64 a0_0, .bool a0_1, .int .u64 a0_2, .int .i64 a0_3] 0 ?_; exact BK252.out) hb); have n1_ := Aside0.mk (blk_below (g := gb253) (o := .cells #[.int .i64 0, .bool false, .int .u64 0, .int .i64 0] 24 (0, 0)) (by refine kb_ ?_; refine bf_ NB253_252 ?_; refine bf_ NB253_252 ?_; refine bf_ NB253_252 ?_; refine bf_ NB253_252 ?_; exact BK253.out) hb); have n2_ := bq_ HB hb; clear BK252; clear BK253; clear HB; have BK252 := n0_; have BK253 := n1_; have HB := n2_; clear n0_ n1_ n2_; (try clear hb); (try clear hb2); (try clear hk); (try clear hi); have hcz13_0 := cz_ BK253 0 rfl; have hcz13_1 := cz_ BK253 1 rfl; have hcz13_2 := cz_ BK253 2 rfl; have hcz13_3 := cz_ BK253 3 rfl; have hfz13_0 := fz_ BK253 0; have hfz13_1 := fz_ BK253 1; have hfz13_2 := fz_ BK253 2; have hfz13_3 := fz_ BK253 3))
  refine bodyPost_ret (results_cell_row rfl _ _ gb253 24 #[.int .i64 t258, .bool t259, .int .u64 t260, .int .i64 t261] (0, 0) _ rfl (by refine kb_ ?_; refine bp_ #[.int .i64 t258, .bool t259, .int .u64 t260, .int .i64 0] 3 ?_; refine bp_ #[.int .i64 t258, .bool t259, .int .u64 0, .int .i64 0] 2 ?_; refine bp_ #[.int .i64 t258, .bool false, .int .u64 0, .int .i64 0] 1 ?_; refine bp_ #[.int .i64 0, .bool false, .int .u64 0, .int .i64 0] 0 ?_; exact BK253.out) Try.underlying24 rfl (by kernel_rfl)) rfl ?_
  exact ⟨by first | rfl | (simp [errW_none, errW_some] <;> rfl) | (simp [*, errW_none, errW_some] <;> rfl), bw_ HB.out⟩
 ·rw [if_neg c4] at H
  have c4b0 : (t254 == 0) = false := beq_eq_false_iff_ne.mpr c4
  have c4b1 : (t254 != 0) = true := bne_iff_ne.mpr c4
  have HC14 := Aside0.mk H
  clear H
  go_enter Try.func24, Try.ntmps24
  go_upto_region 4 with (first | ((with_reducible refine gate_dst (N := 2) rfl ?_); refine bx_ 2 #[.int .i64 a0_0, .bool a0_1, .int .u64 a0_2, .int .i64 a0_3] 24 ?_; intro gb252 hg w15 hbox hb; have n0_ := bq_ HB hb; have n1_ := Aside0.mk (hbox); have n2_ := ge_ hg HB; have n3_ := ge_ hg HB; clear HB; have HB := n0_; have BK252 := n1_; have GW252 := n2_; have GE252 := n3_; clear n0_ n1_ n2_ n3_; clear hb hbox hg) | ((with_reducible refine gate_dst (N := 4) rfl ?_); refine bx_ 4 #[.int .i64 0, .bool false, .int .u64 0, .int .i64 0] 24 ?_; intro gb253 hg w16 hbox hb; have n0_ := kq_ BK252 hb; have n1_ := bq_ HB hb; have n2_ := Aside0.mk (hbox); have n3_ := ge_ hg HB; have n4_ := ge_ hg HB; have n5_ := nb_ hg BK252; have n6_ := nc_ hg BK252; clear BK252; clear HB; have BK252 := n0_; have HB := n1_; have BK253 := n2_; have GW253 := n3_; have GE253 := n4_; have NB252_253 := n5_; have NB253_252 := n6_; clear n0_ n1_ n2_ n3_ n4_ n5_ n6_; clear hb hbox hg; have hnb17 := NB252_253.out; have hnc17 := NB253_252.out; have hcz18_0 := cz_ BK252 0 rfl; have hcz18_1 := cz_ BK252 1 rfl; have hcz18_2 := cz_ BK252 2 rfl; have hcz18_3 := cz_ BK252 3 rfl; have hfz18_0 := fz_ BK252 0; have hfz18_1 := fz_ BK252 1; have hfz18_2 := fz_ BK252 2; have hfz18_3 := fz_ BK252 3) | ((with_reducible refine gate_callee (f := 34) rfl ?_); refine gl_ (some 6) Try.func34 #[.agg #[.int .i64 a0_0, .bool a0_1, .int .u64 a0_2, .int .i64 a0_3]] ?_; (with_reducible refine (num_fair.calls a0_0 a0_1 a0_2 a0_3 t254 t255 t256 t257 _ A3.out).mono ?_); rintro e w19 ⟨rfl, hb⟩; refine ⟨_, rfl, ?_⟩; have n0_ := kq_ BK252 hb; have n1_ := kq_ BK253 hb; have n2_ := bq_ HB hb; clear BK252; clear BK253; clear HB; have BK252 := n0_; have BK253 := n1_; have HB := n2_; clear n0_ n1_ n2_; (try clear hb); (try clear hb2); (try clear hk); (try clear hi); have hcz20_0 := cz_ BK252 0 rfl; have hcz20_1 := cz_ BK252 1 rfl; have hcz20_2 := cz_ BK252 2 rfl; have hcz20_3 := cz_ BK252 3 rfl; have hfz20_0 := fz_ BK252 0; have hfz20_1 := fz_ BK252 1; have hfz20_2 := fz_ BK252 2; have hfz20_3 := fz_ BK252 3))
  (try simp only [Act.put, List.setIfInBounds_toArray, List.set_cons_zero, List.set_cons_succ])
  go_cut [14] (fun v14 wc => ∃ (kq : Nat) (x14_13 : Bool), v14 = .bool x14_13 ∧ Aside0 (num_Next.j0 kq a1 x14_13 t254 t255 t256 t257 = some (r1, r2, r3, r4)) ∧ Aside0 (kq ≤ k) ∧ Aside0 (wc.heap[gb252]? = some (.cells #[.int .i64 t254, .bool t255, .int .u64 t256, .int .i64 t257] 24 (0, 0))) ∧ Aside0 (wc.heap[gb253]? = some (.cells #[.int .i64 0, .bool false, .int .u64 0, .int .i64 0] 24 (0, 0))) ∧ Aside0 (Below w.heap.size w wc))
  case first =>
   have H := HC14.out
   clear HC14
   by_cases c21 : t254 = 2
   ·rw [if_pos c21] at H
    have c21b0 : (t254 == 2) = true := beq_iff_eq.mpr c21
    have c21b1 : (t254 != 2) = false := bne_eq_false_iff_eq.mpr c21
    clear c21
    (first | rw [c21b0] | (simp only [i64_w, i32_w]; rw [c21b0]) | skip)
    have H' := Aside0.mk H
    clear H
    have hnb22 := NB252_253.out
    have hnc22 := NB253_252.out
    have hcz23_0 := cz_ BK252 0 rfl
    have hcz23_1 := cz_ BK252 1 rfl
    have hcz23_2 := cz_ BK252 2 rfl
    have hcz23_3 := cz_ BK252 3 rfl
    have hfz23_0 := fz_ BK252 0
    have hfz23_1 := fz_ BK252 1
    have hfz23_2 := fz_ BK252 2
    have hfz23_3 := fz_ BK252 3
    go_wp2
    go_meet
    case rel => exact ⟨_, ((t255 == a1)), (by first | rfl | (simp; done) | (simp [*]; done)), H', ⟨by first | omega | exact Nat.le_refl _⟩, ⟨by refine kb_ ?_; refine bp_ #[.int .i64 t254, .bool t255, .int .u64 t256, .int .i64 a0_3] 3 ?_; refine bp_ #[.int .i64 t254, .bool t255, .int .u64 a0_2, .int .i64 a0_3] 2 ?_; refine bp_ #[.int .i64 t254, .bool a0_1, .int .u64 a0_2, .int .i64 a0_3] 1 ?_; refine bp_ #[.int .i64 a0_0, .bool a0_1, .int .u64 a0_2, .int .i64 a0_3] 0 ?_; exact BK252.out⟩, ⟨by refine kb_ ?_; refine bf_ NB253_252 ?_; refine bf_ NB253_252 ?_; refine bf_ NB253_252 ?_; refine bf_ NB253_252 ?_; exact BK253.out⟩, ⟨bw_ HB.out⟩⟩
   ·rw [if_neg c21] at H
    have c21b0 : (t254 == 2) = false := beq_eq_false_iff_ne.mpr c21
    have c21b1 : (t254 != 2) = true := bne_iff_ne.mpr c21
    (first | rw [c21b0] | (simp only [i64_w, i32_w]; rw [c21b0]) | skip)
    have H' := Aside0.mk H
    clear H
    have hnb24 := NB252_253.out
    have hnc24 := NB253_252.out
    have hcz25_0 := cz_ BK252 0 rfl
    have hcz25_1 := cz_ BK252 1 rfl
    have hcz25_2 := cz_ BK252 2 rfl
    have hcz25_3 := cz_ BK252 3 rfl
    have hfz25_0 := fz_ BK252 0
    have hfz25_1 := fz_ BK252 1
    have hfz25_2 := fz_ BK252 2
    have hfz25_3 := fz_ BK252 3
    go_wp2
    go_meet
    case rel => exact ⟨_, (false), (by first | rfl | (simp; done) | (simp [*]; done)), H', ⟨by first | omega | exact Nat.le_refl _⟩, ⟨by refine kb_ ?_; refine bp_ #[.int .i64 t254, .bool t255, .int .u64 t256, .int .i64 a0_3] 3 ?_; refine bp_ #[.int .i64 t254, .bool t255, .int .u64 a0_2, .int .i64 a0_3] 2 ?_; refine bp_ #[.int .i64 t254, .bool a0_1, .int .u64 a0_2, .int .i64 a0_3] 1 ?_; refine bp_ #[.int .i64 a0_0, .bool a0_1, .int .u64 a0_2, .int .i64 a0_3] 0 ?_; exact BK252.out⟩, ⟨by refine kb_ ?_; refine bf_ NB253_252 ?_; refine bf_ NB253_252 ?_; refine bf_ NB253_252 ?_; refine bf_ NB253_252 ?_; exact BK253.out⟩, ⟨bw_ HB.out⟩⟩
  case rest =>
   clear HC14
   try clear c1
   try clear c2
   try clear p2
   try clear c3
   try clear c4
   try clear c4b0
   try clear c4b1
   try clear c8
   try clear c17
   try clear c21
   try clear c21b0
   try clear c21b1
   try clear c22
   try clear c24
   try clear hcz11_0
   try clear hcz11_1
   try clear hcz11_2
   try clear hcz11_3
   try clear hcz13_0
   try clear hcz13_1
   try clear hcz13_2
   try clear hcz13_3
   try clear hcz18_0
   try clear hcz18_1
   try clear hcz18_2
   try clear hcz18_3
   try clear hcz20_0
   try clear hcz20_1
   try clear hcz20_2
   try clear hcz20_3
   try clear hcz23_0
   try clear hcz23_1
   try clear hcz23_2
   try clear hcz23_3
   try clear hcz25_0
   try clear hcz25_1
   try clear hcz25_2
   try clear hcz25_3
   try clear hcz9_0
   try clear hcz9_1
   try clear hcz9_2
   try clear hcz9_3
   try clear hfz11_0
   try clear hfz11_1
   try clear hfz11_2
   try clear hfz11_3
   try clear hfz13_0
   try clear hfz13_1
   try clear hfz13_2
   try clear hfz13_3
   try clear hfz18_0
   try clear hfz18_1
   try clear hfz18_2
   try clear hfz18_3
   try clear hfz20_0
   try clear hfz20_1
   try clear hfz20_2
   try clear hfz20_3
   try clear hfz23_0
   try clear hfz23_1
   try clear hfz23_2
   try clear hfz23_3
   try clear hfz25_0
   try clear hfz25_1
   try clear hfz25_2
   try clear hfz25_3
   try clear hfz9_0
   try clear hfz9_1
   try clear hfz9_2
   try clear hfz9_3
   obtain ⟨kq, x14_13, rfl, HA, HJ13, BK252, BK253, HB⟩ := hcut
   cases kq with
   | zero => exact absurd HA.out (by simp [num_Next.j0])
   | succ kj13 =>
    have H := HA.out
    clear HA
    simp only [num_Next.j0] at H
    by_cases c26 : x14_13 = true
    ·subst c26
     have H1 : ((num_huge.f t255).bind fun bt262 => (some (bt262.1, bt262.2.1, bt262.2.2.1, bt262.2.2.2))) = some (r1, r2, r3, r4) := by rw [if_pos rfl] at H; exact H
     clear H
     have H := H1
     clear H1
     replace H := Option.bind_eq_some_iff.mp H
     obtain ⟨⟨t262, t263, t264, t265⟩, A270, H⟩ := H
     (try dsimp only at H)
     have A27 := Aside0.mk A270
     clear A270
     simp only [Option.some.injEq, Prod.mk.injEq] at H
     obtain ⟨rfl, rfl, rfl, rfl⟩ := H
     have hnb28 := NB252_253.out
     have hnc28 := NB253_252.out
     have hcz29_0 := cz_ BK252 0 rfl
     have hcz29_1 := cz_ BK252 1 rfl
     have hcz29_2 := cz_ BK252 2 rfl
     have hcz29_3 := cz_ BK252 3 rfl
     have hfz29_0 := fz_ BK252 0
     have hfz29_1 := fz_ BK252 1
     have hfz29_2 := fz_ BK252 2
     have hfz29_3 := fz_ BK252 3
     go_wp2_with (first | ((with_reducible refine gate_callee (f := 46) rfl ?_); refine gl_ (some 26) Try.func46 #[.bool t255] ?_; (with_reducible refine (num_huge.calls t255 t262 t263 t264 t265 _ A27.out).mono ?_); rintro e w30 ⟨rfl, hb⟩; refine ⟨_, rfl, ?_⟩; have n0_ := kq_ BK252 hb; have n1_ := kq_ BK253 hb; have n2_ := bq_ HB hb; clear BK252; clear BK253; clear HB; have BK252 := n0_; have BK253 := n1_; have HB := n2_; clear n0_ n1_ n2_; (try clear hb); (try clear hb2); (try clear hk); (try clear hi); have hcz31_0 := cz_ BK253 0 rfl; have hcz31_1 := cz_ BK253 1 rfl; have hcz31_2 := cz_ BK253 2 rfl; have hcz31_3 := cz_ BK253 3 rfl; have hfz31_0 := fz_ BK253 0; have hfz31_1 := fz_ BK253 1; have hfz31_2 := fz_ BK253 2; have hfz31_3 := fz_ BK253 3))
     refine bodyPost_ret (results_cell_row rfl _ _ gb253 24 #[.int .i64 t262, .bool t263, .int .u64 t264, .int .i64 t265] (0, 0) _ rfl (by refine kb_ ?_; refine bp_ #[.int .i64 t262, .bool t263, .int .u64 t264, .int .i64 0] 3 ?_; refine bp_ #[.int .i64 t262, .bool t263, .int .u64 0, .int .i64 0] 2 ?_; refine bp_ #[.int .i64 t262, .bool false, .int .u64 0, .int .i64 0] 1 ?_; refine bp_ #[.int .i64 0, .bool false, .int .u64 0, .int .i64 0] 0 ?_; exact BK253.out) Try.underlying24 rfl (by kernel_rfl)) rfl ?_
     exact ⟨by first | rfl | (simp [errW_none, errW_some] <;> rfl) | (simp [*, errW_none, errW_some] <;> rfl), bw_ HB.out⟩
    ·replace c26 := Bool.eq_false_iff.mpr c26
     subst c26
     have H1 : (if t254 = 2 then (some (t254, t255, t256, t257)) else (if (t255 != a1) = true then ((num_Grow.f kj13 t255 t256 t257 true true).bind fun bt266 => (some (bt266.1, bt266.2.1, bt266.2.2.1, bt266.2.2.2))) else (if t256 = 9223372036854775808 then ((num_Bound.f kj13 t255 18446744073709551615 (wrap64 (t257 - 1)) false).bind fun bt270 => (some (bt270.1, bt270.2.1, bt270.2.2.1, bt270.2.2.2))) else (some (t254, t255, IntKind.u64.wrap (t256 - 1), t257))))) = some (r1, r2, r3, r4) := by rw [if_neg (show ¬ (false = true) by decide)] at H; exact H
     clear H
     have H := H1
     clear H1
     by_cases c32 : t254 = 2
     ·rw [if_pos c32] at H
      have c32b0 : (t254 == 2) = true := beq_iff_eq.mpr c32
      have c32b1 : (t254 != 2) = false := bne_eq_false_iff_eq.mpr c32
      clear c32
      simp only [Option.some.injEq, Prod.mk.injEq] at H
      obtain ⟨rfl, rfl, rfl, rfl⟩ := H
      have hnb33 := NB252_253.out
      have hnc33 := NB253_252.out
      have hcz34_0 := cz_ BK252 0 rfl
      have hcz34_1 := cz_ BK252 1 rfl
      have hcz34_2 := cz_ BK252 2 rfl
      have hcz34_3 := cz_ BK252 3 rfl
      have hfz34_0 := fz_ BK252 0
      have hfz34_1 := fz_ BK252 1
      have hfz34_2 := fz_ BK252 2
      have hfz34_3 := fz_ BK252 3
      have hcz35_0 := cz_ BK253 0 rfl
      have hcz35_1 := cz_ BK253 1 rfl
      have hcz35_2 := cz_ BK253 2 rfl
      have hcz35_3 := cz_ BK253 3 rfl
      have hfz35_0 := fz_ BK253 0
      have hfz35_1 := fz_ BK253 1
      have hfz35_2 := fz_ BK253 2
      have hfz35_3 := fz_ BK253 3
      go_wp2
      refine bodyPost_ret (results_cell_row rfl _ _ gb253 24 #[.int .i64 t254, .bool t255, .int .u64 t256, .int .i64 t257] (0, 0) _ rfl (by refine kb_ ?_; refine bp_ #[.int .i64 t254, .bool t255, .int .u64 t256, .int .i64 0] 3 ?_; refine bp_ #[.int .i64 t254, .bool t255, .int .u64 0, .int .i64 0] 2 ?_; refine bp_ #[.int .i64 t254, .bool false, .int .u64 0, .int .i64 0] 1 ?_; refine bp_ #[.int .i64 0, .bool false, .int .u64 0, .int .i64 0] 0 ?_; exact BK253.out) Try.underlying24 rfl (by kernel_rfl)) rfl ?_
      exact ⟨by first | rfl | (simp [errW_none, errW_some] <;> rfl) | (simp [*, errW_none, errW_some] <;> rfl), bw_ HB.out⟩
     ·rw [if_neg c32] at H
      have c32b0 : (t254 == 2) = false := beq_eq_false_iff_ne.mpr c32
      have c32b1 : (t254 != 2) = true := bne_iff_ne.mpr c32
      by_cases c36 : (t255 != a1) = true
      ·rw [if_pos c36] at H
       have c36b0 : (t255 != a1) = true := c36
       (try (have c36b1 : decide (t255 = a1) = false := by simpa using c36))
       (try (have c36b2 : (t255 == a1) = false := by simpa using c36))
       (try (have c36b3 : ¬ (t255 = a1) := by simpa using c36))
       clear c36
       replace H := Option.bind_eq_some_iff.mp H
       obtain ⟨⟨t266, t267, t268, t269⟩, A370, H⟩ := H
       (try dsimp only at H)
       have A37 := Aside0.mk A370
       clear A370
       simp only [Option.some.injEq, Prod.mk.injEq] at H
       obtain ⟨rfl, rfl, rfl, rfl⟩ := H
       have hnb38 := NB252_253.out
       have hnc38 := NB253_252.out
       have hcz39_0 := cz_ BK252 0 rfl
       have hcz39_1 := cz_ BK252 1 rfl
       have hcz39_2 := cz_ BK252 2 rfl
       have hcz39_3 := cz_ BK252 3 rfl
       have hfz39_0 := fz_ BK252 0
       have hfz39_1 := fz_ BK252 1
       have hfz39_2 := fz_ BK252 2
       have hfz39_3 := fz_ BK252 3
       go_wp2_with (first | ((with_reducible refine gate_callee (f := 36) rfl ?_); refine gl_ (some 43) Try.func36 #[.bool t255, .int .u64 t256, .int .i64 t257, .bool true, .bool true] ?_; (with_reducible refine (num_Grow.calls kj13 t255 t256 t257 true true t266 t267 t268 t269 _ A37.out).mono ?_); rintro e w40 ⟨rfl, hb⟩; refine ⟨_, rfl, ?_⟩; have n0_ := kq_ BK252 hb; have n1_ := kq_ BK253 hb; have n2_ := bq_ HB hb; clear BK252; clear BK253; clear HB; have BK252 := n0_; have BK253 := n1_; have HB := n2_; clear n0_ n1_ n2_; (try clear hb); (try clear hb2); (try clear hk); (try clear hi); have hcz41_0 := cz_ BK253 0 rfl; have hcz41_1 := cz_ BK253 1 rfl; have hcz41_2 := cz_ BK253 2 rfl; have hcz41_3 := cz_ BK253 3 rfl; have hfz41_0 := fz_ BK253 0; have hfz41_1 := fz_ BK253 1; have hfz41_2 := fz_ BK253 2; have hfz41_3 := fz_ BK253 3))
       refine bodyPost_ret (results_cell_row rfl _ _ gb253 24 #[.int .i64 t266, .bool t267, .int .u64 t268, .int .i64 t269] (0, 0) _ rfl (by refine kb_ ?_; refine bp_ #[.int .i64 t266, .bool t267, .int .u64 t268, .int .i64 0] 3 ?_; refine bp_ #[.int .i64 t266, .bool t267, .int .u64 0, .int .i64 0] 2 ?_; refine bp_ #[.int .i64 t266, .bool false, .int .u64 0, .int .i64 0] 1 ?_; refine bp_ #[.int .i64 0, .bool false, .int .u64 0, .int .i64 0] 0 ?_; exact BK253.out) Try.underlying24 rfl (by kernel_rfl)) rfl ?_
       exact ⟨by first | rfl | (simp [errW_none, errW_some] <;> rfl) | (simp [*, errW_none, errW_some] <;> rfl), bw_ HB.out⟩
      ·rw [if_neg c36] at H
       have c36b0 : (t255 != a1) = false := by simpa using c36
       (try (have c36b1 : decide (t255 = a1) = true := by simpa using c36))
       (try (have c36b2 : (t255 == a1) = true := by simpa using c36))
       clear c36
       by_cases c42 : t256 = 9223372036854775808
       ·rw [if_pos c42] at H
        have c42b0 : (t256 == 9223372036854775808) = true := beq_iff_eq.mpr c42
        have c42b1 : (t256 != 9223372036854775808) = false := bne_eq_false_iff_eq.mpr c42
        clear c42
        replace H := Option.bind_eq_some_iff.mp H
        obtain ⟨⟨t270, t271, t272, t273⟩, A430, H⟩ := H
        (try dsimp only at H)
        have A43 := Aside0.mk A430
        clear A430
        simp only [Option.some.injEq, Prod.mk.injEq] at H
        obtain ⟨rfl, rfl, rfl, rfl⟩ := H
        have hnb44 := NB252_253.out
        have hnc44 := NB253_252.out
        have hcz45_0 := cz_ BK252 0 rfl
        have hcz45_1 := cz_ BK252 1 rfl
        have hcz45_2 := cz_ BK252 2 rfl
        have hcz45_3 := cz_ BK252 3 rfl
        have hfz45_0 := fz_ BK252 0
        have hfz45_1 := fz_ BK252 1
        have hfz45_2 := fz_ BK252 2
        have hfz45_3 := fz_ BK252 3
        go_wp2_with (first | ((with_reducible refine gate_callee (f := 47) rfl ?_); refine gl_ (some 53) Try.func47 #[.bool t255, .int .u64 18446744073709551615, .int .i64 (wrap64 (t257 - 1)), .bool false] ?_; (with_reducible refine (num_Bound.calls kj13 t255 18446744073709551615 (wrap64 (t257 - 1)) false t270 t271 t272 t273 _ A43.out).mono ?_); rintro e w46 ⟨rfl, hb⟩; refine ⟨_, rfl, ?_⟩; have n0_ := kq_ BK252 hb; have n1_ := kq_ BK253 hb; have n2_ := bq_ HB hb; clear BK252; clear BK253; clear HB; have BK252 := n0_; have BK253 := n1_; have HB := n2_; clear n0_ n1_ n2_; (try clear hb); (try clear hb2); (try clear hk); (try clear hi); have hcz47_0 := cz_ BK253 0 rfl; have hcz47_1 := cz_ BK253 1 rfl; have hcz47_2 := cz_ BK253 2 rfl; have hcz47_3 := cz_ BK253 3 rfl; have hfz47_0 := fz_ BK253 0; have hfz47_1 := fz_ BK253 1; have hfz47_2 := fz_ BK253 2; have hfz47_3 := fz_ BK253 3))
        refine bodyPost_ret (results_cell_row rfl _ _ gb253 24 #[.int .i64 t270, .bool t271, .int .u64 t272, .int .i64 t273] (0, 0) _ rfl (by refine kb_ ?_; refine bp_ #[.int .i64 t270, .bool t271, .int .u64 t272, .int .i64 0] 3 ?_; refine bp_ #[.int .i64 t270, .bool t271, .int .u64 0, .int .i64 0] 2 ?_; refine bp_ #[.int .i64 t270, .bool false, .int .u64 0, .int .i64 0] 1 ?_; refine bp_ #[.int .i64 0, .bool false, .int .u64 0, .int .i64 0] 0 ?_; exact BK253.out) Try.underlying24 rfl (by kernel_rfl)) rfl ?_
        exact ⟨by first | rfl | (simp [errW_none, errW_some] <;> rfl) | (simp [*, errW_none, errW_some] <;> rfl), bw_ HB.out⟩
       ·rw [if_neg c42] at H
        have c42b0 : (t256 == 9223372036854775808) = false := beq_eq_false_iff_ne.mpr c42
        have c42b1 : (t256 != 9223372036854775808) = true := bne_iff_ne.mpr c42
        simp only [Option.some.injEq, Prod.mk.injEq] at H
        obtain ⟨rfl, rfl, rfl, rfl⟩ := H
        have hnb48 := NB252_253.out
        have hnc48 := NB253_252.out
        have hcz49_0 := cz_ BK252 0 rfl
        have hcz49_1 := cz_ BK252 1 rfl
        have hcz49_2 := cz_ BK252 2 rfl
        have hcz49_3 := cz_ BK252 3 rfl
        have hfz49_0 := fz_ BK252 0
        have hfz49_1 := fz_ BK252 1
        have hfz49_2 := fz_ BK252 2
        have hfz49_3 := fz_ BK252 3
        have hcz50_0 := cz_ BK253 0 rfl
        have hcz50_1 := cz_ BK253 1 rfl
        have hcz50_2 := cz_ BK253 2 rfl
        have hcz50_3 := cz_ BK253 3 rfl
        have hfz50_0 := fz_ BK253 0
        have hfz50_1 := fz_ BK253 1
        have hfz50_2 := fz_ BK253 2
        have hfz50_3 := fz_ BK253 3
        go_wp2
        refine bodyPost_ret (results_cell_row rfl _ _ gb253 24 #[.int .i64 t254, .bool t255, .int .u64 (IntKind.u64.wrap (t256 - 1)), .int .i64 t257] (0, 0) _ rfl (by refine kb_ ?_; refine bp_ #[.int .i64 t254, .bool t255, .int .u64 (IntKind.u64.wrap (t256 - 1)), .int .i64 0] 3 ?_; refine bp_ #[.int .i64 t254, .bool t255, .int .u64 0, .int .i64 0] 2 ?_; refine bp_ #[.int .i64 t254, .bool false, .int .u64 0, .int .i64 0] 1 ?_; refine bp_ #[.int .i64 0, .bool false, .int .u64 0, .int .i64 0] 0 ?_; refine bf_ NB253_252 ?_; exact BK253.out) Try.underlying24 rfl (by kernel_rfl)) rfl ?_
        exact ⟨by first | rfl | (simp [errW_none, errW_some] <;> rfl) | (simp [*, errW_none, errW_some] <;> rfl), bw_ HB.out⟩

end Go.Proofs.Ythlhogcnfaiphaa.PA
