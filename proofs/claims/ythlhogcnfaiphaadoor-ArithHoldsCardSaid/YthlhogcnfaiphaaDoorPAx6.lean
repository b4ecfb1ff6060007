-- Laid by this work's own program; Lean checks it.
import Derived.Test.YthlhogcnfaiphaaDoorPAx0
import Derived.Test.YthlhogcnfaiphaaDoorPAx2
import Derived.Test.YthlhogcnfaiphaaDoorPAx3
import Derived.Test.YthlhogcnfaiphaaDoorPAx4
namespace Go.Proofs.YthlhogcnfaiphaaDoor.PA
open Go.RowKit Go.Proofs.YthlhogcnfaiphaaDoorW.PrintWords Go.Proofs.YthlhogcnfaiphaaDoorW.PrintLast Go.Proofs.YthlhogcnfaiphaaDoorW.PrintMore
attribute [local go_sem] max2_int min2_int max_two min_two max_three min_three max_four min_four   -- for this text's walks alone
set_option linter.unusedVariables false
set_option linter.unusedSimpArgs false

attribute [local go_sem ↓ high] isSome_set_
/-! ### bits_Mul64: function 26 -/
set_option maxHeartbeats 8000000 in
set_option maxRecDepth 100000 in
theorem bits_Mul64.calls (a0 : Int) (a1 : Int) (r1 : Int) (r2 : Int) (w : World) (h : bits_Mul64.f a0 a1 = some (r1, r2)) :
  Calls Tryd.prog 26 #[.int .u64 a0, .int .u64 a1] w fun e w' => e = .returned (.tuple #[.int .u64 r1, .int .u64 r2]) ∧ Drawn0 w w' := by
 have H : (some (IntKind.u64.wrap ((IntKind.u64.wrap ((IntKind.u64.wrap ((a0 / 4294967296) * (a1 / 4294967296))) + ((IntKind.u64.wrap ((IntKind.u64.wrap ((a0 / 4294967296) * (Go.bits .and .u64 a1 4294967295))) + ((IntKind.u64.wrap ((Go.bits .and .u64 a0 4294967295) * (Go.bits .and .u64 a1 4294967295))) / 4294967296))) / 4294967296))) + ((IntKind.u64.wrap ((Go.bits .and .u64 (IntKind.u64.wrap ((IntKind.u64.wrap ((a0 / 4294967296) * (Go.bits .and .u64 a1 4294967295))) + ((IntKind.u64.wrap ((Go.bits .and .u64 a0 4294967295) * (Go.bits .and .u64 a1 4294967295))) / 4294967296))) 4294967295) + (IntKind.u64.wrap ((Go.bits .and .u64 a0 4294967295) * (a1 / 4294967296))))) / 4294967296)), IntKind.u64.wrap (a0 * a1))) = some (r1, r2) := h
 clear h
 simp only [Option.some.injEq, Prod.mk.injEq] at H
 obtain ⟨rfl, rfl⟩ := H
 go_enter Tryd.func26, Tryd.ntmps26
 go_wp2
 go_ret2
 exact ⟨by first | rfl | (simp; done) | (simp [*]; done), by repeat (first | exact Drawn0.refl _ | apply Drawn0.step)⟩

/-! ### arith_Mul: function 11 -/
set_option maxHeartbeats 8000000 in
set_option maxRecDepth 100000 in
theorem arith_Mul.calls (k : Nat) (a0_0 : Int) (a0_1 : Bool) (a0_2 : Int) (a0_3 : Int) (a1_0 : Int) (a1_1 : Bool) (a1_2 : Int) (a1_3 : Int) (a2 : Bool) (r1 : Int) (r2 : Bool) (r3 : Int) (r4 : Int) (w : World) (h : arith_Mul.f k a0_0 a0_1 a0_2 a0_3 a1_0 a1_1 a1_2 a1_3 a2 = some (r1, r2, r3, r4)) :
  Calls Tryd.prog 11 #[.agg #[.int .i64 a0_0, .bool a0_1, .int .u64 a0_2, .int .i64 a0_3], .agg #[.int .i64 a1_0, .bool a1_1, .int .u64 a1_2, .int .i64 a1_3], .bool a2] w fun e w' => e = .returned (.agg #[.int .i64 r1, .bool r2, .int .u64 r3, .int .i64 r4]) ∧ Below w.heap.size w w' := by
 have hu24 := Tryd.underlying24
 have HB := Aside0.mk (Below.refl w.heap.size w)
 have H : ((arith_fair.f a0_0 a0_1 a0_2 a0_3).bind fun bt223 => ((arith_fair.f a1_0 a1_1 a1_2 a1_3).bind fun bt227 => (if bt223.1 = 0 then (arith_Mul.j0 k a2 (bt223.2.1 != bt227.2.1) true bt223.1 bt223.2.1 bt223.2.2.1 bt223.2.2.2 bt227.1 bt227.2.1 bt227.2.2.1 bt227.2.2.2) else (arith_Mul.j0 k a2 (bt223.2.1 != bt227.2.1) (bt227.1 == 0) bt223.1 bt223.2.1 bt223.2.2.1 bt223.2.2.2 bt227.1 bt227.2.1 bt227.2.2.1 bt227.2.2.2)))) = some (r1, r2, r3, r4) := h
 clear h
 replace H := Option.bind_eq_some_iff.mp H
 obtain ⟨⟨t223, t224, t225, t226⟩, A40, H⟩ := H
 (try dsimp only at H)
 have A4 := Aside0.mk A40
 clear A40
 replace H := Option.bind_eq_some_iff.mp H
 obtain ⟨⟨t227, t228, t229, t230⟩, A50, H⟩ := H
 (try dsimp only at H)
 have A5 := Aside0.mk A50
 clear A50
 have HC6 := Aside0.mk H
 clear H
 go_enter Tryd.func11, Tryd.ntmps11
 try go_wp2_with (first | ((with_reducible refine gate_dst (N := 3) rfl ?_); refine bx_ 3 #[.int .i64 a0_0, .bool a0_1, .int .u64 a0_2, .int .i64 a0_3] 24 ?_; intro gb220 hg w7 hbox hb; have BK220 := Aside0.mk (hbox); have GW220 := ge_ hg HB; have GE220 := ge_ hg HB; replace HB := bq_ HB hb; clear hb hbox hg) | ((with_reducible refine gate_dst (N := 4) rfl ?_); refine bx_ 4 #[.int .i64 a1_0, .bool a1_1, .int .u64 a1_2, .int .i64 a1_3] 24 ?_; intro gb221 hg w8 hbox hb; have BK221 := Aside0.mk (hbox); have GW221 := ge_ hg HB; have GE221 := ge_ hg HB; have NB220_221 := nb_ hg BK220; have NB221_220 := nc_ hg BK220; replace BK220 := kq_ BK220 hb; replace HB := bq_ HB hb; clear hb hbox hg) | ((with_reducible refine gate_dst (N := 6) rfl ?_); refine bx_ 6 #[.int .i64 0, .bool false, .int .u64 0, .int .i64 0] 24 ?_; intro gb222 hg w9 hbox hb; have BK222 := Aside0.mk (hbox); have GW222 := ge_ hg HB; have GE222 := ge_ hg HB; have NB220_222 := nb_ hg BK220; have NB222_220 := nc_ hg BK220; have NB221_222 := nb_ hg BK221; have NB222_221 := nc_ hg BK221; replace BK220 := kq_ BK220 hb; replace BK221 := kq_ BK221 hb; replace HB := bq_ HB hb; clear hb hbox hg))
 replace BK220 := Aside0.mk (blk_drew BK220.out)
 replace BK221 := Aside0.mk (blk_drew BK221.out)
 replace BK222 := Aside0.mk (blk_drew BK222.out)
 replace HB := Aside0.mk (below_drew1 HB.out)
 refine start_ (n := 6) (S := fun w' => w'.cell? ⟨gb220, 0, none⟩ = some (.int .i64 a0_0) ∧ w'.cell? ⟨gb220, 1, none⟩ = some (.bool a0_1) ∧ w'.cell? ⟨gb220, 2, none⟩ = some (.int .u64 a0_2) ∧ w'.cell? ⟨gb220, 3, none⟩ = some (.int .i64 a0_3) ∧ w'.cell? ⟨gb221, 0, none⟩ = some (.int .i64 a1_0) ∧ w'.cell? ⟨gb221, 1, none⟩ = some (.bool a1_1) ∧ w'.cell? ⟨gb221, 2, none⟩ = some (.int .u64 a1_2) ∧ w'.cell? ⟨gb221, 3, none⟩ = some (.int .i64 a1_3)) (ds := [4, 5]) #[false, false, false, false, false, false] (by kernel_rfl) rfl rfl ⟨(blk_cell BK220.out 0).trans rfl, (blk_cell BK220.out 1).trans rfl, (blk_cell BK220.out 2).trans rfl, (blk_cell BK220.out 3).trans rfl, (blk_cell BK221.out 0).trans rfl, (blk_cell BK221.out 1).trans rfl, (blk_cell BK221.out 2).trans rfl, (blk_cell BK221.out 3).trans rfl⟩ (fun hHeld => ?_)
 generalize w9.drew = w10 at BK220 BK221 BK222 HB hHeld ⊢
 refine take_ (i := 0) (N := some 11) (v := ?_) (a' := ?_) #[true, false, false, false, false, false] rfl rfl (by kernel_rfl) (fun _ _ _ h => h) (Or.inl ⟨by rfl, ?_⟩) hHeld ?_ ?_
 rotate_left
 ·rintro w' ⟨s0, s1, s2, s3, s4, s5, s6, s7⟩
  go_simp
  with_reducible rfl
 rotate_left
 ·exact pt_
 refine take_ (i := 2) (N := some 13) (v := ?_) (a' := ?_) #[true, false, true, false, false, false] rfl rfl (by kernel_rfl) (fun _ _ _ h => h) (Or.inl ⟨by rfl, ?_⟩) hHeld ?_ ?_
 rotate_left
 ·rintro w' ⟨s0, s1, s2, s3, s4, s5, s6, s7⟩
  go_simp
  with_reducible rfl
 rotate_left
 ·exact pt_
 refine one_ (i := 1) (N := some 12) #[true, true, true, false, false, false] rfl rfl (by kernel_rfl) (by decide) (fun K hK => ?_)
 refine gs_ Tryd.func23 #[.agg #[.int .i64 a0_0, .bool a0_1, .int .u64 a0_2, .int .i64 a0_3]] ?_
 with_reducible refine (arith_fair.calls a0_0 a0_1 a0_2 a0_3 t223 t224 t225 t226 _ A4.out).mono ?_
 rintro e w11 ⟨rfl, hb⟩
 refine ⟨_, rfl, ?_⟩
 replace BK220 := kq_ BK220 hb
 replace BK221 := kq_ BK221 hb
 replace BK222 := kq_ BK222 hb
 replace HB := bq_ HB hb
 (try clear hb)
 (try clear hb2)
 (try clear hk)
 (try clear hi)
 refine hK.out _ _ ⟨(blk_cell BK220.out 0).trans rfl, (blk_cell BK220.out 1).trans rfl, (blk_cell BK220.out 2).trans rfl, (blk_cell BK220.out 3).trans rfl, (blk_cell BK221.out 0).trans rfl, (blk_cell BK221.out 1).trans rfl, (blk_cell BK221.out 2).trans rfl, (blk_cell BK221.out 3).trans rfl⟩ (fun hHeld => ?_)
 clear hK K
 refine norm_ (a' := ?_) ?_ ?_
 rotate_left
 ·show Act.put _ (some 12) _ = _
  exact pt_
 refine one_ (i := 3) (N := some 14) #[true, true, true, true, false, false] rfl rfl (by kernel_rfl) (by decide) (fun K hK => ?_)
 refine gs_ Tryd.func23 #[.agg #[.int .i64 a1_0, .bool a1_1, .int .u64 a1_2, .int .i64 a1_3]] ?_
 with_reducible refine (arith_fair.calls a1_0 a1_1 a1_2 a1_3 t227 t228 t229 t230 _ A5.out).mono ?_
 rintro e w12 ⟨rfl, hb⟩
 refine ⟨_, rfl, ?_⟩
 replace BK220 := kq_ BK220 hb
 replace BK221 := kq_ BK221 hb
 replace BK222 := kq_ BK222 hb
 replace HB := bq_ HB hb
 (try clear hb)
 (try clear hb2)
 (try clear hk)
 (try clear hi)
 refine hK.out _ _ ⟨(blk_cell BK220.out 0).trans rfl, (blk_cell BK220.out 1).trans rfl, (blk_cell BK220.out 2).trans rfl, (blk_cell BK220.out 3).trans rfl, (blk_cell BK221.out 0).trans rfl, (blk_cell BK221.out 1).trans rfl, (blk_cell BK221.out 2).trans rfl, (blk_cell BK221.out 3).trans rfl⟩ (fun hHeld => ?_)
 clear hK K
 refine norm_ (a' := ?_) ?_ ?_
 rotate_left
 ·show Act.put _ (some 14) _ = _
  exact pt_
 refine last_ (i := 4) (N := none) #[true, true, true, true, true, false] rfl rfl (by kernel_rfl) (by decide) (fun K hK => ?_)
 have hs13 : w12.cell? ⟨gb220, 0, none⟩ = some (.int .i64 a0_0) := (blk_cell BK220.out 0).trans rfl
 have hfs13 := fz_ BK220 0
 have hns13_1 := NB221_220.out
 have hns13_2 := NB222_220.out
 have hms13_1 := NB220_221.out
 have hms13_2 := NB220_222.out
 have hs14 : w12.cell? ⟨gb220, 1, none⟩ = some (.bool a0_1) := (blk_cell BK220.out 1).trans rfl
 have hfs14 := fz_ BK220 1
 have hns14_1 := NB221_220.out
 have hns14_2 := NB222_220.out
 have hms14_1 := NB220_221.out
 have hms14_2 := NB220_222.out
 have hs15 : w12.cell? ⟨gb220, 2, none⟩ = some (.int .u64 a0_2) := (blk_cell BK220.out 2).trans rfl
 have hfs15 := fz_ BK220 2
 have hns15_1 := NB221_220.out
 have hns15_2 := NB222_220.out
 have hms15_1 := NB220_221.out
 have hms15_2 := NB220_222.out
 have hs16 : w12.cell? ⟨gb220, 3, none⟩ = some (.int .i64 a0_3) := (blk_cell BK220.out 3).trans rfl
 have hfs16 := fz_ BK220 3
 have hns16_1 := NB221_220.out
 have hns16_2 := NB222_220.out
 have hms16_1 := NB220_221.out
 have hms16_2 := NB220_222.out
 refine skip_ (w1 := ?_) (by rfl) rfl ?_ ?_
 rotate_left
 ·go_simp
  rfl
 refine hK.out _ _ ?_
 clear hK K
 refine last_ (i := 5) (N := none) #[true, true, true, true, true, true] rfl rfl (by kernel_rfl) (by decide) (fun K hK => ?_)
 have hs17 : w12.cell? ⟨gb221, 0, none⟩ = some (.int .i64 a1_0) := (blk_cell BK221.out 0).trans rfl
 have hfs17 := fz_ BK221 0
 have hns17_0 := NB220_221.out
 have hns17_2 := NB222_221.out
 have hms17_0 := NB221_220.out
 have hms17_2 := NB221_222.out
 have hs18 : w12.cell? ⟨gb221, 1, none⟩ = some (.bool a1_1) := (blk_cell BK221.out 1).trans rfl
 have hfs18 := fz_ BK221 1
 have hns18_0 := NB220_221.out
 have hns18_2 := NB222_221.out
 have hms18_0 := NB221_220.out
 have hms18_2 := NB221_222.out
 have hs19 : w12.cell? ⟨gb221, 2, none⟩ = some (.int .u64 a1_2) := (blk_cell BK221.out 2).trans rfl
 have hfs19 := fz_ BK221 2
 have hns19_0 := NB220_221.out
 have hns19_2 := NB222_221.out
 have hms19_0 := NB221_220.out
 have hms19_2 := NB221_222.out
 have hs20 : w12.cell? ⟨gb221, 3, none⟩ = some (.int .i64 a1_3) := (blk_cell BK221.out 3).trans rfl
 have hfs20 := fz_ BK221 3
 have hns20_0 := NB220_221.out
 have hns20_2 := NB222_221.out
 have hms20_0 := NB221_220.out
 have hms20_2 := NB221_222.out
 refine skip_ (w1 := ?_) (by rfl) rfl ?_ ?_
 rotate_left
 ·go_simp
  rfl
 refine hK.out _ _ ?_
 clear hK K
 refine done_ (by kernel_rfl) ?_
 have hnb21 := NB220_221.out
 have hnc21 := NB221_220.out
 have hnb22 := NB220_222.out
 have hnc22 := NB222_220.out
 obtain ⟨hcz23_0, hcz23_1, hcz23_2, hcz23_3, hfz23_0, hfz23_1, hfz23_2, hfz23_3⟩ := c4_ BK220
 have hnb24 := NB221_222.out
 have hnc24 := NB222_221.out
 obtain ⟨hcz25_0, hcz25_1, hcz25_2, hcz25_3, hfz25_0, hfz25_1, hfz25_2, hfz25_3⟩ := c4_ BK221
 go_upto_region 3 with (fail)
 go_cut [20] (fun v20 wc => ∃ (kq : Nat) (x20_5 : Bool), v20 = .bool x20_5 ∧ Aside0 (arith_Mul.j0 kq a2 (t224 != t228) x20_5 t223 t224 t225 t226 t227 t228 t229 t230 = some (r1, r2, r3, r4)) ∧ Aside0 (kq ≤ k) ∧ Aside0 (wc.heap[gb220]? = some (.cells #[.int .i64 t223, .bool t224, .int .u64 t225, .int .i64 t226] 24 (0, 0))) ∧ Aside0 (wc.heap[gb221]? = some (.cells #[.int .i64 t227, .bool t228, .int .u64 t229, .int .i64 t230] 24 (0, 0))) ∧ Aside0 (wc.heap[gb222]? = some (.cells #[.int .i64 0, .bool false, .int .u64 0, .int .i64 0] 24 (0, 0))) ∧ Aside0 (Below w.heap.size w wc))
 case first =>
  have H := HC6.out
  clear HC6
  by_cases c26 : t223 = 0
  ·rw [if_pos c26] at H
   have c26b0 : (t223 == 0) = true := beq_iff_eq.mpr c26
   have c26b1 : (t223 != 0) = false := bne_eq_false_iff_eq.mpr c26
   clear c26
   (first | rw [c26b0] | (simp only [i64_w, i32_w]; rw [c26b0]) | skip)
   have H' := Aside0.mk H
   clear H
   have hnb27 := NB220_221.out
   have hnc27 := NB221_220.out
   have hnb28 := NB220_222.out
   have hnc28 := NB222_220.out
   obtain ⟨hcz29_0, hcz29_1, hcz29_2, hcz29_3, hfz29_0, hfz29_1, hfz29_2, hfz29_3⟩ := c4_ BK220
   go_wp2
   go_meet
   case rel => exact ⟨_, (true), (by first | rfl | (simp; done) | (simp [*]; done)), H', ⟨by first | omega | exact Nat.le_refl _⟩, ⟨by refine kb_ ?_; refine bf_ NB220_221 ?_; refine bf_ NB220_221 ?_; refine bf_ NB220_221 ?_; refine bf_ NB220_221 ?_; refine bp_ #[.int .i64 t223, .bool t224, .int .u64 t225, .int .i64 a0_3] 3 ?_; refine bp_ #[.int .i64 t223, .bool t224, .int .u64 a0_2, .int .i64 a0_3] 2 ?_; refine bp_ #[.int .i64 t223, .bool a0_1, .int .u64 a0_2, .int .i64 a0_3] 1 ?_; refine bp_ #[.int .i64 a0_0, .bool a0_1, .int .u64 a0_2, .int .i64 a0_3] 0 ?_; exact BK220.out⟩, ⟨by refine kb_ ?_; refine bp_ #[.int .i64 t227, .bool t228, .int .u64 t229, .int .i64 a1_3] 3 ?_; refine bp_ #[.int .i64 t227, .bool t228, .int .u64 a1_2, .int .i64 a1_3] 2 ?_; refine bp_ #[.int .i64 t227, .bool a1_1, .int .u64 a1_2, .int .i64 a1_3] 1 ?_; refine bp_ #[.int .i64 a1_0, .bool a1_1, .int .u64 a1_2, .int .i64 a1_3] 0 ?_; refine bf_ NB221_220 ?_; refine bf_ NB221_220 ?_; refine bf_ NB221_220 ?_; refine bf_ NB221_220 ?_; exact BK221.out⟩, ⟨by refine kb_ ?_; refine bf_ NB222_221 ?_; refine bf_ NB222_221 ?_; refine bf_ NB222_221 ?_; refine bf_ NB222_221 ?_; refine bf_ NB222_220 ?_; refine bf_ NB222_220 ?_; refine bf_ NB222_220 ?_; refine bf_ NB222_220 ?_; exact BK222.out⟩, ⟨bw_ HB.out⟩⟩
  ·rw [if_neg c26] at H
   have c26b0 : (t223 == 0) = false := beq_eq_false_iff_ne.mpr c26
   have c26b1 : (t223 != 0) = true := bne_iff_ne.mpr c26
   (first | rw [c26b0] | (simp only [i64_w, i32_w]; rw [c26b0]) | skip)
   have H' := Aside0.mk H
   clear H
   have hnb30 := NB220_221.out
   have hnc30 := NB221_220.out
   have hnb31 := NB220_222.out
   have hnc31 := NB222_220.out
   obtain ⟨hcz32_0, hcz32_1, hcz32_2, hcz32_3, hfz32_0, hfz32_1, hfz32_2, hfz32_3⟩ := c4_ BK220
   have hnb33 := NB221_222.out
   have hnc33 := NB222_221.out
   obtain ⟨hcz34_0, hcz34_1, hcz34_2, hcz34_3, hfz34_0, hfz34_1, hfz34_2, hfz34_3⟩ := c4_ BK221
   go_wp2
   go_meet
   case rel => exact ⟨_, ((t227 == 0)), (by first | rfl | (simp; done) | (simp [*]; done)), H', ⟨by first | omega | exact Nat.le_refl _⟩, ⟨by refine kb_ ?_; refine bf_ NB220_221 ?_; refine bf_ NB220_221 ?_; refine bf_ NB220_221 ?_; refine bf_ NB220_221 ?_; refine bp_ #[.int .i64 t223, .bool t224, .int .u64 t225, .int .i64 a0_3] 3 ?_; refine bp_ #[.int .i64 t223, .bool t224, .int .u64 a0_2, .int .i64 a0_3] 2 ?_; refine bp_ #[.int .i64 t223, .bool a0_1, .int .u64 a0_2, .int .i64 a0_3] 1 ?_; refine bp_ #[.int .i64 a0_0, .bool a0_1, .int .u64 a0_2, .int .i64 a0_3] 0 ?_; exact BK220.out⟩, ⟨by refine kb_ ?_; refine bp_ #[.int .i64 t227, .bool t228, .int .u64 t229, .int .i64 a1_3] 3 ?_; refine bp_ #[.int .i64 t227, .bool t228, .int .u64 a1_2, .int .i64 a1_3] 2 ?_; refine bp_ #[.int .i64 t227, .bool a1_1, .int .u64 a1_2, .int .i64 a1_3] 1 ?_; refine bp_ #[.int .i64 a1_0, .bool a1_1, .int .u64 a1_2, .int .i64 a1_3] 0 ?_; refine bf_ NB221_220 ?_; refine bf_ NB221_220 ?_; refine bf_ NB221_220 ?_; refine bf_ NB221_220 ?_; exact BK221.out⟩, ⟨by refine kb_ ?_; refine bf_ NB222_221 ?_; refine bf_ NB222_221 ?_; refine bf_ NB222_221 ?_; refine bf_ NB222_221 ?_; refine bf_ NB222_220 ?_; refine bf_ NB222_220 ?_; refine bf_ NB222_220 ?_; refine bf_ NB222_220 ?_; exact BK222.out⟩, ⟨bw_ HB.out⟩⟩
 case rest =>
  clear HC6
  try clear c1
  try clear c2
  try clear p2
  try clear c3
  try clear c11
  try clear c21
  try clear c22
  try clear c23
  try clear c24
  try clear c26
  try clear c26b0
  try clear c26b1
  try clear c27
  try clear c28
  try clear c30
  try clear c31
  try clear c33
  try clear hcz23_0 hcz23_1 hcz23_2 hcz23_3
  try clear hcz25_0 hcz25_1 hcz25_2 hcz25_3
  try clear hcz29_0 hcz29_1 hcz29_2 hcz29_3
  try clear hcz32_0 hcz32_1 hcz32_2 hcz32_3
  try clear hcz34_0 hcz34_1 hcz34_2 hcz34_3
  try clear hfz23_0 hfz23_1 hfz23_2 hfz23_3
  try clear hfz25_0 hfz25_1 hfz25_2 hfz25_3
  try clear hfz29_0 hfz29_1 hfz29_2 hfz29_3
  try clear hfz32_0 hfz32_1 hfz32_2 hfz32_3
  try clear hfz34_0 hfz34_1 hfz34_2 hfz34_3
  obtain ⟨kq, x20_5, rfl, HA, HJ5, BK220, BK221, BK222, HB⟩ := hcut
  cases kq with
  | zero => exact absurd HA.out (by simp [arith_Mul.j0])
  | succ kj5 =>
   have H := HA.out
   clear HA
   simp only [arith_Mul.j0] at H
   by_cases c35 : x20_5 = true
   ·subst c35
    have H1 : (some (0, false, 0, 0)) = some (r1, r2, r3, r4) := by rw [if_pos rfl] at H; exact H
    clear H
    have H := H1
    clear H1
    simp only [Option.some.injEq, Prod.mk.injEq] at H
    obtain ⟨rfl, rfl, rfl, rfl⟩ := H
    have hnb36 := NB222_220.out
    have hnc36 := NB220_222.out
    have hnb37 := NB222_221.out
    have hnc37 := NB221_222.out
    obtain ⟨hcz38_0, hcz38_1, hcz38_2, hcz38_3, hfz38_0, hfz38_1, hfz38_2, hfz38_3⟩ := c4_ BK222
    go_wp2
    refine bodyPost_ret (results_cell_row rfl _ _ gb222 24 #[.int .i64 0, .bool false, .int .u64 0, .int .i64 0] (0, 0) _ rfl (by refine kb_ ?_; refine bp_ #[.int .i64 0, .bool false, .int .u64 0, .int .i64 0] 3 ?_; refine bp_ #[.int .i64 0, .bool false, .int .u64 0, .int .i64 0] 2 ?_; refine bp_ #[.int .i64 0, .bool false, .int .u64 0, .int .i64 0] 1 ?_; refine bp_ #[.int .i64 0, .bool false, .int .u64 0, .int .i64 0] 0 ?_; exact BK222.out) Tryd.underlying24 rfl (by kernel_rfl)) rfl ?_
    exact ⟨rf_, bw_ HB.out⟩
   ·replace c35 := Bool.eq_false_iff.mpr c35
    subst c35
    have H1 : (if t223 = 2 then ((num_Infinite.f (t224 != t228)).bind fun bt231 => (some (bt231.1, bt231.2.1, bt231.2.2.1, bt231.2.2.2))) else (if t227 = 2 then ((num_Infinite.f (t224 != t228)).bind fun bt235 => (some (bt235.1, bt235.2.1, bt235.2.2.1, bt235.2.2.2))) else ((bits_Mul64.f t225 t229).bind fun bt239 => (if bt239.1 < 9223372036854775808 then ((num_Grow.f kj5 (t224 != t228) (Go.bits .or .u64 (IntKind.u64.wrap (bt239.1 * 2)) (bt239.2 / 9223372036854775808)) (wrap64 ((wrap64 ((wrap64 (t226 + t230)) + 64)) - 1)) ((IntKind.u64.wrap (bt239.2 * 2)) != 0) (a2 != (t224 != t228))).bind fun bt241 => (some (bt241.1, bt241.2.1, bt241.2.2.1, bt241.2.2.2))) else ((num_Grow.f kj5 (t224 != t228) bt239.1 (wrap64 ((wrap64 (t226 + t230)) + 64)) (bt239.2 != 0) (a2 != (t224 != t228))).bind fun bt245 => (some (bt245.1, bt245.2.1, bt245.2.2.1, bt245.2.2.2))))))) = some (r1, r2, r3, r4) := by rw [if_neg (show ¬ (false = true) by decide)] at H; exact H
    clear H
    have H := H1
    clear H1
    by_cases c39 : t223 = 2
    ·rw [if_pos c39] at H
     have c39b0 : (t223 == 2) = true := beq_iff_eq.mpr c39
     have c39b1 : (t223 != 2) = false := bne_eq_false_iff_eq.mpr c39
     clear c39
     replace H := Option.bind_eq_some_iff.mp H
     obtain ⟨⟨t231, t232, t233, t234⟩, A400, H⟩ := H
     (try dsimp only at H)
     have A40 := Aside0.mk A400
     clear A400
     simp only [Option.some.injEq, Prod.mk.injEq] at H
     obtain ⟨rfl, rfl, rfl, rfl⟩ := H
     have hnb41 := NB220_221.out
     have hnc41 := NB221_220.out
     have hnb42 := NB220_222.out
     have hnc42 := NB222_220.out
     obtain ⟨hcz43_0, hcz43_1, hcz43_2, hcz43_3, hfz43_0, hfz43_1, hfz43_2, hfz43_3⟩ := c4_ BK220
     go_wp2_with (first | ((with_reducible refine gate_callee (f := 14) rfl ?_); refine gl_ (some 40) Tryd.func14 #[.bool (t224 != t228)] ?_; (with_reducible refine (num_Infinite.calls (t224 != t228) t231 t232 t233 t234 _ A40.out).mono ?_); rintro e w44 ⟨rfl, hb⟩; refine ⟨_, rfl, ?_⟩; replace BK220 := kq_ BK220 hb; replace BK221 := kq_ BK221 hb; replace BK222 := kq_ BK222 hb; replace HB := bq_ HB hb; (try clear hb); (try clear hb2); (try clear hk); (try clear hi); have hnb45 := NB222_221.out; have hnc45 := NB221_222.out; obtain ⟨hcz46_0, hcz46_1, hcz46_2, hcz46_3, hfz46_0, hfz46_1, hfz46_2, hfz46_3⟩ := c4_ BK222))
     refine bodyPost_ret (results_cell_row rfl _ _ gb222 24 #[.int .i64 t231, .bool t232, .int .u64 t233, .int .i64 t234] (0, 0) _ rfl (by refine kb_ ?_; refine bp_ #[.int .i64 t231, .bool t232, .int .u64 t233, .int .i64 0] 3 ?_; refine bp_ #[.int .i64 t231, .bool t232, .int .u64 0, .int .i64 0] 2 ?_; refine bp_ #[.int .i64 t231, .bool false, .int .u64 0, .int .i64 0] 1 ?_; refine bp_ #[.int .i64 0, .bool false, .int .u64 0, .int .i64 0] 0 ?_; exact BK222.out) Tryd.underlying24 rfl (by kernel_rfl)) rfl ?_
     exact ⟨rf_, bw_ HB.out⟩
    ·rw [if_neg c39] at H
     have c39b0 : (t223 == 2) = false := beq_eq_false_iff_ne.mpr c39
     have c39b1 : (t223 != 2) = true := bne_iff_ne.mpr c39
     by_cases c47 : t227 = 2
     ·rw [if_pos c47] at H
      have c47b0 : (t227 == 2) = true := beq_iff_eq.mpr c47
      have c47b1 : (t227 != 2) = false := bne_eq_false_iff_eq.mpr c47
      clear c47
      replace H := Option.bind_eq_some_iff.mp H
      obtain ⟨⟨t235, t236, t237, t238⟩, A480, H⟩ := H
      (try dsimp only at H)
      have A48 := Aside0.mk A480
      clear A480
      simp only [Option.some.injEq, Prod.mk.injEq] at H
      obtain ⟨rfl, rfl, rfl, rfl⟩ := H
      have hnb49 := NB220_221.out
      have hnc49 := NB221_220.out
      have hnb50 := NB220_222.out
      have hnc50 := NB222_220.out
      obtain ⟨hcz51_0, hcz51_1, hcz51_2, hcz51_3, hfz51_0, hfz51_1, hfz51_2, hfz51_3⟩ := c4_ BK220
      have hnb52 := NB221_222.out
      have hnc52 := NB222_221.out
      obtain ⟨hcz53_0, hcz53_1, hcz53_2, hcz53_3, hfz53_0, hfz53_1, hfz53_2, hfz53_3⟩ := c4_ BK221
      go_wp2_with (first | ((with_reducible refine gate_callee (f := 14) rfl ?_); refine gl_ (some 40) Tryd.func14 #[.bool (t224 != t228)] ?_; (with_reducible refine (num_Infinite.calls (t224 != t228) t235 t236 t237 t238 _ A48.out).mono ?_); rintro e w54 ⟨rfl, hb⟩; refine ⟨_, rfl, ?_⟩; replace BK220 := kq_ BK220 hb; replace BK221 := kq_ BK221 hb; replace BK222 := kq_ BK222 hb; replace HB := bq_ HB hb; (try clear hb); (try clear hb2); (try clear hk); (try clear hi); obtain ⟨hcz55_0, hcz55_1, hcz55_2, hcz55_3, hfz55_0, hfz55_1, hfz55_2, hfz55_3⟩ := c4_ BK222))
      refine bodyPost_ret (results_cell_row rfl _ _ gb222 24 #[.int .i64 t235, .bool t236, .int .u64 t237, .int .i64 t238] (0, 0) _ rfl (by refine kb_ ?_; refine bp_ #[.int .i64 t235, .bool t236, .int .u64 t237, .int .i64 0] 3 ?_; refine bp_ #[.int .i64 t235, .bool t236, .int .u64 0, .int .i64 0] 2 ?_; refine bp_ #[.int .i64 t235, .bool false, .int .u64 0, .int .i64 0] 1 ?_; refine bp_ #[.int .i64 0, .bool false, .int .u64 0, .int .i64 0] 0 ?_; exact BK222.out) Tryd.underlying24 rfl (by kernel_rfl)) rfl ?_
      exact ⟨rf_, bw_ HB.out⟩
     ·rw [if_neg c47] at H
      have c47b0 : (t227 == 2) = false := beq_eq_false_iff_ne.mpr c47
      have c47b1 : (t227 != 2) = true := bne_iff_ne.mpr c47
      replace H := Option.bind_eq_some_iff.mp H
      obtain ⟨⟨t239, t240⟩, A560, H⟩ := H
      (try dsimp only at H)
      have A56 := Aside0.mk A560
      clear A560
      by_cases c57 : t239 < 9223372036854775808
      ·rw [if_pos c57] at H
       have c57b0 : decide (t239 < 9223372036854775808) = true := decide_eq_true c57
       clear c57
       replace H := Option.bind_eq_some_iff.mp H
       obtain ⟨⟨t241, t242, t243, t244⟩, A580, H⟩ := H
       (try dsimp only at H)
       have A58 := Aside0.mk A580
       clear A580
       simp only [Option.some.injEq, Prod.mk.injEq] at H
       obtain ⟨rfl, rfl, rfl, rfl⟩ := H
       have hnb59 := NB220_221.out
       have hnc59 := NB221_220.out
       have hnb60 := NB220_222.out
       have hnc60 := NB222_220.out
       obtain ⟨hcz61_0, hcz61_1, hcz61_2, hcz61_3, hfz61_0, hfz61_1, hfz61_2, hfz61_3⟩ := c4_ BK220
       have hnb62 := NB221_222.out
       have hnc62 := NB222_221.out
       obtain ⟨hcz63_0, hcz63_1, hcz63_2, hcz63_3, hfz63_0, hfz63_1, hfz63_2, hfz63_3⟩ := c4_ BK221
       go_wp2_with (first | ((with_reducible refine gate_callee (f := 26) rfl ?_); refine gl_ (some 46) Tryd.func26 #[.int .u64 t225, .int .u64 t229] ?_; (with_reducible refine (bits_Mul64.calls t225 t229 t239 t240 _ A56.out).mono ?_); rintro e w' ⟨rfl, ⟨nd, rfl⟩⟩; refine ⟨_, rfl, ?_⟩; (try (rw [drewN_self wc]; generalize hq_ : World.drewN wc _ = wc; have n0_ : Aside0 (wc.heap[gb220]? = some (.cells #[.int .i64 t223, .bool t224, .int .u64 t225, .int .i64 t226] 24 (0, 0))) := ⟨by rw [← hq_]; exact (kb_ BK220.out)⟩; have n1_ : Aside0 (wc.heap[gb221]? = some (.cells #[.int .i64 t227, .bool t228, .int .u64 t229, .int .i64 t230] 24 (0, 0))) := ⟨by rw [← hq_]; exact (kb_ BK221.out)⟩; have n2_ : Aside0 (wc.heap[gb222]? = some (.cells #[.int .i64 0, .bool false, .int .u64 0, .int .i64 0] 24 (0, 0))) := ⟨by rw [← hq_]; exact (kb_ BK222.out)⟩; have n3_ : Aside0 (Below w.heap.size w wc) := ⟨by rw [← hq_]; exact (bw_ HB.out)⟩; clear BK220 BK221 BK222 HB hq_; have BK220 := n0_; have BK221 := n1_; have BK222 := n2_; have HB := n3_; clear n0_ n1_ n2_ n3_)); (try (obtain ⟨hcz61_0, hcz61_1, hcz61_2, hcz61_3, hfz61_0, hfz61_1, hfz61_2, hfz61_3⟩ := c4_ BK220; obtain ⟨hcz63_0, hcz63_1, hcz63_2, hcz63_3, hfz63_0, hfz63_1, hfz63_2, hfz63_3⟩ := c4_ BK221))) | ((with_reducible refine gate_callee (f := 27) rfl ?_); refine gl_ (some 74) Tryd.func27 #[.bool (t224 != t228), .int .u64 (Go.bits .or .u64 (IntKind.u64.wrap (t239 * 2)) (t240 / 9223372036854775808)), .int .i64 (wrap64 ((wrap64 ((wrap64 (t226 + t230)) + 64)) - 1)), .bool ((IntKind.u64.wrap (t240 * 2)) != 0), .bool (a2 != (t224 != t228))] ?_; (with_reducible refine (num_Grow.calls kj5 (t224 != t228) (Go.bits .or .u64 (IntKind.u64.wrap (t239 * 2)) (t240 / 9223372036854775808)) (wrap64 ((wrap64 ((wrap64 (t226 + t230)) + 64)) - 1)) ((IntKind.u64.wrap (t240 * 2)) != 0) (a2 != (t224 != t228)) t241 t242 t243 t244 _ A58.out).mono ?_); rintro e w64 ⟨rfl, hb⟩; refine ⟨_, rfl, ?_⟩; replace BK220 := kq_ BK220 hb; replace BK221 := kq_ BK221 hb; replace BK222 := kq_ BK222 hb; replace HB := bq_ HB hb; (try clear hb); (try clear hb2); (try clear hk); (try clear hi); obtain ⟨hcz65_0, hcz65_1, hcz65_2, hcz65_3, hfz65_0, hfz65_1, hfz65_2, hfz65_3⟩ := c4_ BK222))
       refine bodyPost_ret (results_cell_row rfl _ _ gb222 24 #[.int .i64 t241, .bool t242, .int .u64 t243, .int .i64 t244] (0, 0) _ rfl (by refine kb_ ?_; refine bp_ #[.int .i64 t241, .bool t242, .int .u64 t243, .int .i64 0] 3 ?_; refine bp_ #[.int .i64 t241, .bool t242, .int .u64 0, .int .i64 0] 2 ?_; refine bp_ #[.int .i64 t241, .bool false, .int .u64 0, .int .i64 0] 1 ?_; refine bp_ #[.int .i64 0, .bool false, .int .u64 0, .int .i64 0] 0 ?_; exact BK222.out) Tryd.underlying24 rfl (by kernel_rfl)) rfl ?_
       exact ⟨rf_, bw_ HB.out⟩
      ·rw [if_neg c57] at H
       have c57b0 : decide (t239 < 9223372036854775808) = false := decide_eq_false c57
       clear c57
       replace H := Option.bind_eq_some_iff.mp H
       obtain ⟨⟨t245, t246, t247, t248⟩, A660, H⟩ := H
       (try dsimp only at H)
       have A66 := Aside0.mk A660
       clear A660
       simp only [Option.some.injEq, Prod.mk.injEq] at H
       obtain ⟨rfl, rfl, rfl, rfl⟩ := H
       have hnb67 := NB220_221.out
       have hnc67 := NB221_220.out
       have hnb68 := NB220_222.out
       have hnc68 := NB222_220.out
       obtain ⟨hcz69_0, hcz69_1, hcz69_2, hcz69_3, hfz69_0, hfz69_1, hfz69_2, hfz69_3⟩ := c4_ BK220
       have hnb70 := NB221_222.out
       have hnc70 := NB222_221.out
       obtain ⟨hcz71_0, hcz71_1, hcz71_2, hcz71_3, hfz71_0, hfz71_1, hfz71_2, hfz71_3⟩ := c4_ BK221
       go_wp2_with (first | ((with_reducible refine gate_callee (f := 26) rfl ?_); refine gl_ (some 46) Tryd.func26 #[.int .u64 t225, .int .u64 t229] ?_; (with_reducible refine (bits_Mul64.calls t225 t229 t239 t240 _ A56.out).mono ?_); rintro e w' ⟨rfl, ⟨nd, rfl⟩⟩; refine ⟨_, rfl, ?_⟩; (try (rw [drewN_self wc]; generalize hq_ : World.drewN wc _ = wc; have n0_ : Aside0 (wc.heap[gb220]? = some (.cells #[.int .i64 t223, .bool t224, .int .u64 t225, .int .i64 t226] 24 (0, 0))) := ⟨by rw [← hq_]; exact (kb_ BK220.out)⟩; have n1_ : Aside0 (wc.heap[gb221]? = some (.cells #[.int .i64 t227, .bool t228, .int .u64 t229, .int .i64 t230] 24 (0, 0))) := ⟨by rw [← hq_]; exact (kb_ BK221.out)⟩; have n2_ : Aside0 (wc.heap[gb222]? = some (.cells #[.int .i64 0, .bool false, .int .u64 0, .int .i64 0] 24 (0, 0))) := ⟨by rw [← hq_]; exact (kb_ BK222.out)⟩; have n3_ : Aside0 (Below w.heap.size w wc) := ⟨by rw [← hq_]; exact (bw_ HB.out)⟩; clear BK220 BK221 BK222 HB hq_; have BK220 := n0_; have BK221 := n1_; have BK222 := n2_; have HB := n3_; clear n0_ n1_ n2_ n3_)); (try (obtain ⟨hcz69_0, hcz69_1, hcz69_2, hcz69_3, hfz69_0, hfz69_1, hfz69_2, hfz69_3⟩ := c4_ BK220; obtain ⟨hcz71_0, hcz71_1, hcz71_2, hcz71_3, hfz71_0, hfz71_1, hfz71_2, hfz71_3⟩ := c4_ BK221))) | ((with_reducible refine gate_callee (f := 27) rfl ?_); refine gl_ (some 74) Tryd.func27 #[.bool (t224 != t228), .int .u64 t239, .int .i64 (wrap64 ((wrap64 (t226 + t230)) + 64)), .bool (t240 != 0), .bool (a2 != (t224 != t228))] ?_; (with_reducible refine (num_Grow.calls kj5 (t224 != t228) t239 (wrap64 ((wrap64 (t226 + t230)) + 64)) (t240 != 0) (a2 != (t224 != t228)) t245 t246 t247 t248 _ A66.out).mono ?_); rintro e w72 ⟨rfl, hb⟩; refine ⟨_, rfl, ?_⟩; replace BK220 := kq_ BK220 hb; replace BK221 := kq_ BK221 hb; replace BK222 := kq_ BK222 hb; replace HB := bq_ HB hb; (try clear hb); (try clear hb2); (try clear hk); (try clear hi); obtain ⟨hcz73_0, hcz73_1, hcz73_2, hcz73_3, hfz73_0, hfz73_1, hfz73_2, hfz73_3⟩ := c4_ BK222))
       refine bodyPost_ret (results_cell_row rfl _ _ gb222 24 #[.int .i64 t245, .bool t246, .int .u64 t247, .int .i64 t248] (0, 0) _ rfl (by refine kb_ ?_; refine bp_ #[.int .i64 t245, .bool t246, .int .u64 t247, .int .i64 0] 3 ?_; refine bp_ #[.int .i64 t245, .bool t246, .int .u64 0, .int .i64 0] 2 ?_; refine bp_ #[.int .i64 t245, .bool false, .int .u64 0, .int .i64 0] 1 ?_; refine bp_ #[.int .i64 0, .bool false, .int .u64 0, .int .i64 0] 0 ?_; exact BK222.out) Tryd.underlying24 rfl (by kernel_rfl)) rfl ?_
       exact ⟨rf_, bw_ HB.out⟩

/-! ### num_Of: function 12 -/
set_option maxHeartbeats 8000000 in
set_option maxRecDepth 100000 in
theorem num_Of.calls (k : Nat) (a0 : Int) (r1 : Int) (r2 : Bool) (r3 : Int) (r4 : Int) (w : World) (h : num_Of.f k a0 = some (r1, r2, r3, r4)) :
  Calls Tryd.prog 12 #[.int .i64 a0] w fun e w' => e = .returned (.agg #[.int .i64 r1, .bool r2, .int .u64 r3, .int .i64 r4]) ∧ Below w.heap.size w w' := by
 have hu24 := Tryd.underlying24
 have HB := Aside0.mk (Below.refl w.heap.size w)
 have H : (if a0 < 0 then ((bits_LeadingZeros64.f k (IntKind.u64.wrap (-(IntKind.u64.wrap (a0))))).bind fun t250 => (if (IntKind.u64.wrap (-(IntKind.u64.wrap (a0)))) = 0 then (some (0, false, 0, 0)) else (if 0 ≤ t250 then (some (1, decide (a0 < 0), shl .u64 (IntKind.u64.wrap (-(IntKind.u64.wrap (a0)))) t250, wrap64 (-t250))) else (none)))) else ((bits_LeadingZeros64.f k (IntKind.u64.wrap (a0))).bind fun t251 => (if (IntKind.u64.wrap (a0)) = 0 then (some (0, false, 0, 0)) else (if 0 ≤ t251 then (some (1, decide (a0 < 0), shl .u64 (IntKind.u64.wrap (a0)) t251, wrap64 (-t251))) else (none))))) = some (r1, r2, r3, r4) := h
 clear h
 by_cases c2 : a0 < 0
 ·rw [if_pos c2] at H
  have c2b0 : decide (a0 < 0) = true := decide_eq_true c2
  clear c2
  replace H := Option.bind_eq_some_iff.mp H
  obtain ⟨t250, A30, H⟩ := H
  (try dsimp only at H)
  have A3 := Aside0.mk A30
  clear A30
  by_cases c4 : (IntKind.u64.wrap (-(IntKind.u64.wrap (a0)))) = 0
  ·rw [if_pos c4] at H
   have c4b0 : ((IntKind.u64.wrap (-(IntKind.u64.wrap (a0)))) == 0) = true := beq_iff_eq.mpr c4
   have c4b1 : ((IntKind.u64.wrap (-(IntKind.u64.wrap (a0)))) != 0) = false := bne_eq_false_iff_eq.mpr c4
   clear c4
   simp only [Option.some.injEq, Prod.mk.injEq] at H
   obtain ⟨rfl, rfl, rfl, rfl⟩ := H
   go_enter Tryd.func12, Tryd.ntmps12
   go_wp2_with (first | ((with_reducible refine gate_dst (N := 2) rfl ?_); refine bx_ 2 #[.int .i64 0, .bool false, .int .u64 0, .int .i64 0] 24 ?_; intro gb249 hg w5 hbox hb; have BK249 := Aside0.mk (hbox); have GW249 := ge_ hg HB; have GE249 := ge_ hg HB; replace HB := bq_ HB hb; clear hb hbox hg) | ((with_reducible refine gate_callee (f := 28) rfl ?_); refine gl_ (some 12) Tryd.func28 #[.int .u64 (IntKind.u64.wrap (-(IntKind.u64.wrap (a0))))] ?_; (with_reducible refine (bits_LeadingZeros64.calls k (IntKind.u64.wrap (-(IntKind.u64.wrap (a0)))) t250 _ A3.out).mono ?_); rintro e w' ⟨rfl, ⟨nd, rfl⟩⟩; refine ⟨_, rfl, ?_⟩; (try (rw [drewN_self w5]; generalize hq_ : World.drewN w5 _ = w5; have n0_ : Aside0 (w5.heap[gb249]? = some (.cells #[.int .i64 0, .bool false, .int .u64 0, .int .i64 0] 24 (0, 0))) := ⟨by rw [← hq_]; exact (kb_ BK249.out)⟩; have n1_ : Aside0 (Below w.heap.size w w5) := ⟨by rw [← hq_]; exact (bw_ HB.out)⟩; clear BK249 HB hq_; have BK249 := n0_; have HB := n1_; clear n0_ n1_)); obtain ⟨hcz6_0, hcz6_1, hcz6_2, hcz6_3, hfz6_0, hfz6_1, hfz6_2, hfz6_3⟩ := c4_ BK249))
   refine bodyPost_ret (results_cell_row rfl _ _ gb249 24 #[.int .i64 0, .bool false, .int .u64 0, .int .i64 0] (0, 0) _ rfl (by refine kb_ ?_; refine bp_ #[.int .i64 0, .bool false, .int .u64 0, .int .i64 0] 3 ?_; refine bp_ #[.int .i64 0, .bool false, .int .u64 0, .int .i64 0] 2 ?_; refine bp_ #[.int .i64 0, .bool false, .int .u64 0, .int .i64 0] 1 ?_; refine bp_ #[.int .i64 0, .bool false, .int .u64 0, .int .i64 0] 0 ?_; exact BK249.out) Tryd.underlying24 rfl (by kernel_rfl)) rfl ?_
   exact ⟨rf_, bw_ HB.out⟩
  ·rw [if_neg c4] at H
   have c4b0 : ((IntKind.u64.wrap (-(IntKind.u64.wrap (a0)))) == 0) = false := beq_eq_false_iff_ne.mpr c4
   have c4b1 : ((IntKind.u64.wrap (-(IntKind.u64.wrap (a0)))) != 0) = true := bne_iff_ne.mpr c4
   by_cases c7 : 0 ≤ t250
   ·rw [if_pos c7] at H
    have c7b0 := eq_true c7
    have c7b1 : decide (0 ≤ t250) = true := decide_eq_true c7
    clear c7
    obtain ⟨ji8, hji8⟩ : ∃ j_ : Int, (shl .u64 (IntKind.u64.wrap (-(IntKind.u64.wrap (a0)))) t250) = j_ := ⟨_, rfl⟩
    (first | rw [hji8] at H | simp only [hji8] at H)
    (try rw [hji8] at A3)
    have hji8_ : (IntKind.u64.wrap ((IntKind.u64.wrap (-(IntKind.u64.wrap (a0)))) * 2 ^ min t250.toNat 64)) = ji8 := hji8
    have hji8z : t250 ≤ 64 → (IntKind.u64.wrap ((IntKind.u64.wrap (-(IntKind.u64.wrap (a0)))) * 2 ^ t250.toNat)) = ji8 := shl_small hji8
    simp only [Option.some.injEq, Prod.mk.injEq] at H
    obtain ⟨rfl, rfl, rfl, rfl⟩ := H
    go_enter Tryd.func12, Tryd.ntmps12
    go_wp2_with (first | ((with_reducible refine gate_dst (N := 2) rfl ?_); refine bx_ 2 #[.int .i64 0, .bool false, .int .u64 0, .int .i64 0] 24 ?_; intro gb249 hg w9 hbox hb; have BK249 := Aside0.mk (hbox); have GW249 := ge_ hg HB; have GE249 := ge_ hg HB; replace HB := bq_ HB hb; clear hb hbox hg) | ((with_reducible refine gate_callee (f := 28) rfl ?_); refine gl_ (some 12) Tryd.func28 #[.int .u64 (IntKind.u64.wrap (-(IntKind.u64.wrap (a0))))] ?_; (with_reducible refine (bits_LeadingZeros64.calls k (IntKind.u64.wrap (-(IntKind.u64.wrap (a0)))) t250 _ A3.out).mono ?_); rintro e w' ⟨rfl, ⟨nd, rfl⟩⟩; refine ⟨_, rfl, ?_⟩; (try (rw [drewN_self w9]; generalize hq_ : World.drewN w9 _ = w9; have n0_ : Aside0 (w9.heap[gb249]? = some (.cells #[.int .i64 0, .bool false, .int .u64 0, .int .i64 0] 24 (0, 0))) := ⟨by rw [← hq_]; exact (kb_ BK249.out)⟩; have n1_ : Aside0 (Below w.heap.size w w9) := ⟨by rw [← hq_]; exact (bw_ HB.out)⟩; clear BK249 HB hq_; have BK249 := n0_; have HB := n1_; clear n0_ n1_)); obtain ⟨hcz10_0, hcz10_1, hcz10_2, hcz10_3, hfz10_0, hfz10_1, hfz10_2, hfz10_3⟩ := c4_ BK249))
    refine bodyPost_ret (results_cell_row rfl _ _ gb249 24 #[.int .i64 1, .bool (decide (a0 < 0)), .int .u64 ji8, .int .i64 (wrap64 (-t250))] (0, 0) _ rfl (by refine kb_ ?_; refine bp_ #[.int .i64 1, .bool (decide (a0 < 0)), .int .u64 ji8, .int .i64 0] 3 ?_; refine bp_ #[.int .i64 1, .bool (decide (a0 < 0)), .int .u64 0, .int .i64 0] 2 ?_; refine bp_ #[.int .i64 1, .bool false, .int .u64 0, .int .i64 0] 1 ?_; refine bp_ #[.int .i64 0, .bool false, .int .u64 0, .int .i64 0] 0 ?_; exact BK249.out) Tryd.underlying24 rfl (by kernel_rfl)) rfl ?_
    exact ⟨by first | rfl | (simp [errW_none, errW_some] <;> rfl) | (simp only [← hji8]; first | rfl | (simp [errW_none, errW_some] <;> rfl)) | (simp [*, errW_none, errW_some] <;> rfl), bw_ HB.out⟩
   ·rw [if_neg c7] at H
    exact absurd H (by simp)
 ·rw [if_neg c2] at H
  have c2b0 : decide (a0 < 0) = false := decide_eq_false c2
  clear c2
  replace H := Option.bind_eq_some_iff.mp H
  obtain ⟨t251, A110, H⟩ := H
  (try dsimp only at H)
  have A11 := Aside0.mk A110
  clear A110
  by_cases c12 : (IntKind.u64.wrap (a0)) = 0
  ·rw [if_pos c12] at H
   have c12b0 : ((IntKind.u64.wrap (a0)) == 0) = true := beq_iff_eq.mpr c12
   have c12b1 : ((IntKind.u64.wrap (a0)) != 0) = false := bne_eq_false_iff_eq.mpr c12
   clear c12
   simp only [Option.some.injEq, Prod.mk.injEq] at H
   obtain ⟨rfl, rfl, rfl, rfl⟩ := H
   go_enter Tryd.func12, Tryd.ntmps12
   go_wp2_with (first | ((with_reducible refine gate_dst (N := 2) rfl ?_); refine bx_ 2 #[.int .i64 0, .bool false, .int .u64 0, .int .i64 0] 24 ?_; intro gb249 hg w13 hbox hb; have BK249 := Aside0.mk (hbox); have GW249 := ge_ hg HB; have GE249 := ge_ hg HB; replace HB := bq_ HB hb; clear hb hbox hg) | ((with_reducible refine gate_callee (f := 28) rfl ?_); refine gl_ (some 12) Tryd.func28 #[.int .u64 (IntKind.u64.wrap (a0))] ?_; (with_reducible refine (bits_LeadingZeros64.calls k (IntKind.u64.wrap (a0)) t251 _ A11.out).mono ?_); rintro e w' ⟨rfl, ⟨nd, rfl⟩⟩; refine ⟨_, rfl, ?_⟩; (try (rw [drewN_self w13]; generalize hq_ : World.drewN w13 _ = w13; have n0_ : Aside0 (w13.heap[gb249]? = some (.cells #[.int .i64 0, .bool false, .int .u64 0, .int .i64 0] 24 (0, 0))) := ⟨by rw [← hq_]; exact (kb_ BK249.out)⟩; have n1_ : Aside0 (Below w.heap.size w w13) := ⟨by rw [← hq_]; exact (bw_ HB.out)⟩; clear BK249 HB hq_; have BK249 := n0_; have HB := n1_; clear n0_ n1_)); obtain ⟨hcz14_0, hcz14_1, hcz14_2, hcz14_3, hfz14_0, hfz14_1, hfz14_2, hfz14_3⟩ := c4_ BK249))
   refine bodyPost_ret (results_cell_row rfl _ _ gb249 24 #[.int .i64 0, .bool false, .int .u64 0, .int .i64 0] (0, 0) _ rfl (by refine kb_ ?_; refine bp_ #[.int .i64 0, .bool false, .int .u64 0, .int .i64 0] 3 ?_; refine bp_ #[.int .i64 0, .bool false, .int .u64 0, .int .i64 0] 2 ?_; refine bp_ #[.int .i64 0, .bool false, .int .u64 0, .int .i64 0] 1 ?_; refine bp_ #[.int .i64 0, .bool false, .int .u64 0, .int .i64 0] 0 ?_; exact BK249.out) Tryd.underlying24 rfl (by kernel_rfl)) rfl ?_
   exact ⟨rf_, bw_ HB.out⟩
  ·rw [if_neg c12] at H
   have c12b0 : ((IntKind.u64.wrap (a0)) == 0) = false := beq_eq_false_iff_ne.mpr c12
   have c12b1 : ((IntKind.u64.wrap (a0)) != 0) = true := bne_iff_ne.mpr c12
   by_cases c15 : 0 ≤ t251
   ·rw [if_pos c15] at H
    have c15b0 := eq_true c15
    have c15b1 : decide (0 ≤ t251) = true := decide_eq_true c15
    clear c15
    obtain ⟨ji16, hji16⟩ : ∃ j_ : Int, (shl .u64 (IntKind.u64.wrap (a0)) t251) = j_ := ⟨_, rfl⟩
    (first | rw [hji16] at H | simp only [hji16] at H)
    (try rw [hji16] at A11)
    have hji16_ : (IntKind.u64.wrap ((IntKind.u64.wrap (a0)) * 2 ^ min t251.toNat 64)) = ji16 := hji16
    have hji16z : t251 ≤ 64 → (IntKind.u64.wrap ((IntKind.u64.wrap (a0)) * 2 ^ t251.toNat)) = ji16 := shl_small hji16
    simp only [Option.some.injEq, Prod.mk.injEq] at H
    obtain ⟨rfl, rfl, rfl, rfl⟩ := H
    go_enter Tryd.func12, Tryd.ntmps12
    go_wp2_with (first | ((with_reducible refine gate_dst (N := 2) rfl ?_); refine bx_ 2 #[.int .i64 0, .bool false, .int .u64 0, .int .i64 0] 24 ?_; intro gb249 hg w17 hbox hb; have BK249 := Aside0.mk (hbox); have GW249 := ge_ hg HB; have GE249 := ge_ hg HB; replace HB := bq_ HB hb; clear hb hbox hg) | ((with_reducible refine gate_callee (f := 28) rfl ?_); refine gl_ (some 12) Tryd.func28 #[.int .u64 (IntKind.u64.wrap (a0))] ?_; (with_reducible refine (bits_LeadingZeros64.calls k (IntKind.u64.wrap (a0)) t251 _ A11.out).mono ?_); rintro e w' ⟨rfl, ⟨nd, rfl⟩⟩; refine ⟨_, rfl, ?_⟩; (try (rw [drewN_self w17]; generalize hq_ : World.drewN w17 _ = w17; have n0_ : Aside0 (w17.heap[gb249]? = some (.cells #[.int .i64 0, .bool false, .int .u64 0, .int .i64 0] 24 (0, 0))) := ⟨by rw [← hq_]; exact (kb_ BK249.out)⟩; have n1_ : Aside0 (Below w.heap.size w w17) := ⟨by rw [← hq_]; exact (bw_ HB.out)⟩; clear BK249 HB hq_; have BK249 := n0_; have HB := n1_; clear n0_ n1_)); obtain ⟨hcz18_0, hcz18_1, hcz18_2, hcz18_3, hfz18_0, hfz18_1, hfz18_2, hfz18_3⟩ := c4_ BK249))
    refine bodyPost_ret (results_cell_row rfl _ _ gb249 24 #[.int .i64 1, .bool (decide (a0 < 0)), .int .u64 ji16, .int .i64 (wrap64 (-t251))] (0, 0) _ rfl (by refine kb_ ?_; refine bp_ #[.int .i64 1, .bool (decide (a0 < 0)), .int .u64 ji16, .int .i64 0] 3 ?_; refine bp_ #[.int .i64 1, .bool (decide (a0 < 0)), .int .u64 0, .int .i64 0] 2 ?_; refine bp_ #[.int .i64 1, .bool false, .int .u64 0, .int .i64 0] 1 ?_; refine bp_ #[.int .i64 0, .bool false, .int .u64 0, .int .i64 0] 0 ?_; exact BK249.out) Tryd.underlying24 rfl (by kernel_rfl)) rfl ?_
    exact ⟨by first | rfl | (simp [errW_none, errW_some] <;> rfl) | (simp only [← hji16]; first | rfl | (simp [errW_none, errW_some] <;> rfl)) | (simp [*, errW_none, errW_some] <;> rfl), bw_ HB.out⟩
   ·rw [if_neg c15] at H
    exact absurd H (by simp)

/-! ### num_fair: function 29 -/
set_option maxHeartbeats 8000000 in
set_option maxRecDepth 100000 in
theorem num_fair.calls (a0_0 : Int) (a0_1 : Bool) (a0_2 : Int) (a0_3 : Int) (r1 : Int) (r2 : Bool) (r3 : Int) (r4 : Int) (w : World) (h : num_fair.f a0_0 a0_1 a0_2 a0_3 = some (r1, r2, r3, r4)) :
  Calls Tryd.prog 29 #[.agg #[.int .i64 a0_0, .bool a0_1, .int .u64 a0_2, .int .i64 a0_3]] w fun e w' => e = .returned (.agg #[.int .i64 r1, .bool r2, .int .u64 r3, .int .i64 r4]) ∧ Below w.heap.size w w' := by
 have hu24 := Tryd.underlying24
 have HB := Aside0.mk (Below.refl w.heap.size w)
 have H : ((num_May.f a0_0 a0_1 a0_2 a0_3).bind fun t254 => (if t254 = true then (some (a0_0, a0_1, a0_2, a0_3)) else (some (0, false, 0, 0)))) = some (r1, r2, r3, r4) := h
 clear h
 replace H := Option.bind_eq_some_iff.mp H
 obtain ⟨t254, A20, H⟩ := H
 (try dsimp only at H)
 have A2 := Aside0.mk A20
 clear A20
 by_cases c3 : t254 = true
 ·subst c3
  have H1 : (some (a0_0, a0_1, a0_2, a0_3)) = some (r1, r2, r3, r4) := by rw [if_pos rfl] at H; exact H
  clear H
  have H := H1
  clear H1
  simp only [Option.some.injEq, Prod.mk.injEq] at H
  obtain ⟨rfl, rfl, rfl, rfl⟩ := H
  go_enter Tryd.func29, Tryd.ntmps29
  go_wp2_with (first | ((with_reducible refine gate_dst (N := 1) rfl ?_); refine bx_ 1 #[.int .i64 a0_0, .bool a0_1, .int .u64 a0_2, .int .i64 a0_3] 24 ?_; intro gb252 hg w4 hbox hb; have BK252 := Aside0.mk (hbox); have GW252 := ge_ hg HB; have GE252 := ge_ hg HB; replace HB := bq_ HB hb; clear hb hbox hg) | ((with_reducible refine gate_dst (N := 2) rfl ?_); refine bx_ 2 #[.int .i64 0, .bool false, .int .u64 0, .int .i64 0] 24 ?_; intro gb253 hg w5 hbox hb; have BK253 := Aside0.mk (hbox); have GW253 := ge_ hg HB; have GE253 := ge_ hg HB; have NB252_253 := nb_ hg BK252; have NB253_252 := nc_ hg BK252; replace BK252 := kq_ BK252 hb; replace HB := bq_ HB hb; clear hb hbox hg; have hnb6 := NB252_253.out; have hnc6 := NB253_252.out; obtain ⟨hcz7_0, hcz7_1, hcz7_2, hcz7_3, hfz7_0, hfz7_1, hfz7_2, hfz7_3⟩ := c4_ BK252) | ((with_reducible refine gate_callee (f := 15) rfl ?_); refine gl_ (some 4) Tryd.func15 #[.agg #[.int .i64 a0_0, .bool a0_1, .int .u64 a0_2, .int .i64 a0_3]] ?_; (with_reducible refine (num_May.calls a0_0 a0_1 a0_2 a0_3 true _ A2.out).mono ?_); rintro e w8 ⟨rfl, hb⟩; refine ⟨_, rfl, ?_⟩; replace BK252 := kq_ BK252 hb; replace BK253 := kq_ BK253 hb; replace HB := bq_ HB hb; (try clear hb); (try clear hb2); (try clear hk); (try clear hi); obtain ⟨hcz9_0, hcz9_1, hcz9_2, hcz9_3, hfz9_0, hfz9_1, hfz9_2, hfz9_3⟩ := c4_ BK252; obtain ⟨hcz10_0, hcz10_1, hcz10_2, hcz10_3, hfz10_0, hfz10_1, hfz10_2, hfz10_3⟩ := c4_ BK253))
  refine bodyPost_ret (results_cell_row rfl _ _ gb253 24 #[.int .i64 a0_0, .bool a0_1, .int .u64 a0_2, .int .i64 a0_3] (0, 0) _ rfl (by refine kb_ ?_; refine bp_ #[.int .i64 a0_0, .bool a0_1, .int .u64 a0_2, .int .i64 0] 3 ?_; refine bp_ #[.int .i64 a0_0, .bool a0_1, .int .u64 0, .int .i64 0] 2 ?_; refine bp_ #[.int .i64 a0_0, .bool false, .int .u64 0, .int .i64 0] 1 ?_; refine bp_ #[.int .i64 0, .bool false, .int .u64 0, .int .i64 0] 0 ?_; exact BK253.out) Tryd.underlying24 rfl (by kernel_rfl)) rfl ?_
  exact ⟨rf_, bw_ HB.out⟩
 ·replace c3 := Bool.eq_false_iff.mpr c3
  subst c3
  have H1 : (some (0, false, 0, 0)) = some (r1, r2, r3, r4) := by rw [if_neg (show ¬ (false = true) by decide)] at H; exact H
  clear H
  have H := H1
  clear H1
  simp only [Option.some.injEq, Prod.mk.injEq] at H
  obtain ⟨rfl, rfl, rfl, rfl⟩ := H
  go_enter Tryd.func29, Tryd.ntmps29
  go_wp2_with (first | ((with_reducible refine gate_dst (N := 1) rfl ?_); refine bx_ 1 #[.int .i64 a0_0, .bool a0_1, .int .u64 a0_2, .int .i64 a0_3] 24 ?_; intro gb252 hg w11 hbox hb; have BK252 := Aside0.mk (hbox); have GW252 := ge_ hg HB; have GE252 := ge_ hg HB; replace HB := bq_ HB hb; clear hb hbox hg) | ((with_reducible refine gate_dst (N := 2) rfl ?_); refine bx_ 2 #[.int .i64 0, .bool false, .int .u64 0, .int .i64 0] 24 ?_; intro gb253 hg w12 hbox hb; have BK253 := Aside0.mk (hbox); have GW253 := ge_ hg HB; have GE253 := ge_ hg HB; have NB252_253 := nb_ hg BK252; have NB253_252 := nc_ hg BK252; replace BK252 := kq_ BK252 hb; replace HB := bq_ HB hb; clear hb hbox hg; have hnb13 := NB252_253.out; have hnc13 := NB253_252.out; obtain ⟨hcz14_0, hcz14_1, hcz14_2, hcz14_3, hfz14_0, hfz14_1, hfz14_2, hfz14_3⟩ := c4_ BK252) | ((with_reducible refine gate_callee (f := 15) rfl ?_); refine gl_ (some 4) Tryd.func15 #[.agg #[.int .i64 a0_0, .bool a0_1, .int .u64 a0_2, .int .i64 a0_3]] ?_; (with_reducible refine (num_May.calls a0_0 a0_1 a0_2 a0_3 false _ A2.out).mono ?_); rintro e w15 ⟨rfl, hb⟩; refine ⟨_, rfl, ?_⟩; replace BK252 := kq_ BK252 hb; replace BK253 := kq_ BK253 hb; replace HB := bq_ HB hb; (try clear hb); (try clear hb2); (try clear hk); (try clear hi); obtain ⟨hcz16_0, hcz16_1, hcz16_2, hcz16_3, hfz16_0, hfz16_1, hfz16_2, hfz16_3⟩ := c4_ BK253))
  refine bodyPost_ret (results_cell_row rfl _ _ gb253 24 #[.int .i64 0, .bool false, .int .u64 0, .int .i64 0] (0, 0) _ rfl (by refine kb_ ?_; refine bp_ #[.int .i64 0, .bool false, .int .u64 0, .int .i64 0] 3 ?_; refine bp_ #[.int .i64 0, .bool false, .int .u64 0, .int .i64 0] 2 ?_; refine bp_ #[.int .i64 0, .bool false, .int .u64 0, .int .i64 0] 1 ?_; refine bp_ #[.int .i64 0, .bool false, .int .u64 0, .int .i64 0] 0 ?_; exact BK253.out) Tryd.underlying24 rfl (by kernel_rfl)) rfl ?_
  exact ⟨rf_, bw_ HB.out⟩

/-! ### num_Next: function 13 -/
set_option maxHeartbeats 8000000 in
set_option maxRecDepth 100000 in
theorem num_Next.calls (k : Nat) (a0_0 : Int) (a0_1 : Bool) (a0_2 : Int) (a0_3 : Int) (a1 : Bool) (r1 : Int) (r2 : Bool) (r3 : Int) (r4 : Int) (w : World) (h : num_Next.f k a0_0 a0_1 a0_2 a0_3 a1 = some (r1, r2, r3, r4)) :
  Calls Tryd.prog 13 #[.agg #[.int .i64 a0_0, .bool a0_1, .int .u64 a0_2, .int .i64 a0_3], .bool a1] w fun e w' => e = .returned (.agg #[.int .i64 r1, .bool r2, .int .u64 r3, .int .i64 r4]) ∧ Below w.heap.size w w' := by
 have hu24 := Tryd.underlying24
 have HB := Aside0.mk (Below.refl w.heap.size w)
 have H : ((num_fair.f a0_0 a0_1 a0_2 a0_3).bind fun bt257 => (if bt257.1 = 0 then ((num_tiny.f (!a1)).bind fun bt261 => (some (bt261.1, bt261.2.1, bt261.2.2.1, bt261.2.2.2))) else (if bt257.1 = 2 then (num_Next.j0 k a1 (bt257.2.1 == a1) bt257.1 bt257.2.1 bt257.2.2.1 bt257.2.2.2) else (num_Next.j0 k a1 false bt257.1 bt257.2.1 bt257.2.2.1 bt257.2.2.2)))) = some (r1, r2, r3, r4) := h
 clear h
 replace H := Option.bind_eq_some_iff.mp H
 obtain ⟨⟨t257, t258, t259, t260⟩, A30, H⟩ := H
 (try dsimp only at H)
 have A3 := Aside0.mk A30
 clear A30
 by_cases c4 : t257 = 0
 ·rw [if_pos c4] at H
  have c4b0 : (t257 == 0) = true := beq_iff_eq.mpr c4
  have c4b1 : (t257 != 0) = false := bne_eq_false_iff_eq.mpr c4
  clear c4
  replace H := Option.bind_eq_some_iff.mp H
  obtain ⟨⟨t261, t262, t263, t264⟩, A50, H⟩ := H
  (try dsimp only at H)
  have A5 := Aside0.mk A50
  clear A50
  simp only [Option.some.injEq, Prod.mk.injEq] at H
  obtain ⟨rfl, rfl, rfl, rfl⟩ := H
  go_enter Tryd.func13, Tryd.ntmps13
  go_wp2_with (first | ((with_reducible refine gate_dst (N := 2) rfl ?_); refine bx_ 2 #[.int .i64 a0_0, .bool a0_1, .int .u64 a0_2, .int .i64 a0_3] 24 ?_; intro gb255 hg w6 hbox hb; have BK255 := Aside0.mk (hbox); have GW255 := ge_ hg HB; have GE255 := ge_ hg HB; replace HB := bq_ HB hb; clear hb hbox hg) | ((with_reducible refine gate_dst (N := 4) rfl ?_); refine bx_ 4 #[.int .i64 0, .bool false, .int .u64 0, .int .i64 0] 24 ?_; intro gb256 hg w7 hbox hb; have BK256 := Aside0.mk (hbox); have GW256 := ge_ hg HB; have GE256 := ge_ hg HB; have NB255_256 := nb_ hg BK255; have NB256_255 := nc_ hg BK255; replace BK255 := kq_ BK255 hb; replace HB := bq_ HB hb; clear hb hbox hg; have hnb8 := NB255_256.out; have hnc8 := NB256_255.out; obtain ⟨hcz9_0, hcz9_1, hcz9_2, hcz9_3, hfz9_0, hfz9_1, hfz9_2, hfz9_3⟩ := c4_ BK255) | ((with_reducible refine gate_callee (f := 29) rfl ?_); refine gl_ (some 6) Tryd.func29 #[.agg #[.int .i64 a0_0, .bool a0_1, .int .u64 a0_2, .int .i64 a0_3]] ?_; (with_reducible refine (num_fair.calls a0_0 a0_1 a0_2 a0_3 t257 t258 t259 t260 _ A3.out).mono ?_); rintro e w10 ⟨rfl, hb⟩; refine ⟨_, rfl, ?_⟩; replace BK255 := kq_ BK255 hb; replace BK256 := kq_ BK256 hb; replace HB := bq_ HB hb; (try clear hb); (try clear hb2); (try clear hk); (try clear hi); obtain ⟨hcz11_0, hcz11_1, hcz11_2, hcz11_3, hfz11_0, hfz11_1, hfz11_2, hfz11_3⟩ := c4_ BK255) | ((with_reducible refine gate_callee (f := 30) rfl ?_); refine gl_ (some 13) Tryd.func30 #[.bool (!a1)] ?_; (with_reducible refine (num_tiny.calls (!a1) t261 t262 t263 t264 _ A5.out).mono ?_); rintro e w12 ⟨rfl, hb⟩; refine ⟨_, rfl, ?_⟩; have n0_ := Aside0.mk (blk_below (g := gb255) (o := .cells #[.int .i64 t257, .bool t258, .int .u64 t259, .int .i64 t260] 24 (0, 0)) (by refine kb_ ?_; refine bp_ #[.int .i64 t257, .bool t258, .int .u64 t259, .int .i64 a0_3] 3 ?_; refine bp_ #[.int .i64 t257, .bool t258, .int .u64 a0_2, .int .i64 a0_3] 2 ?_; refine bp_ #[.int .i64 t257, .bool a0_1, .int .u64 a0_2, .int .i64 a0_3] 1 ?_; refine bp_ #[.int .i64 a0_0, .bool a0_1, .int .u64 a0_2, .int .i64 a0_3] 0 ?_; exact BK255.out) hb); have n1_ := Aside0.mk (blk_below (g := gb256) (o := .cells #[.int .i64 0, .bool false, .int .u64 0, .int .i64 0] 24 (0, 0)) (by refine kb_ ?_; refine bf_ NB256_255 ?_; refine bf_ NB256_255 ?_; refine bf_ NB256_255 ?_; refine bf_ NB256_255 ?_; exact BK256.out) hb); have n2_ := bq_ HB hb; clear BK255; clear BK256; clear HB; have BK255 := n0_; have BK256 := n1_; have HB := n2_; clear n0_ n1_ n2_; (try clear hb); (try clear hb2); (try clear hk); (try clear hi); obtain ⟨hcz13_0, hcz13_1, hcz13_2, hcz13_3, hfz13_0, hfz13_1, hfz13_2, hfz13_3⟩ := c4_ BK256))
  refine bodyPost_ret (results_cell_row rfl _ _ gb256 24 #[.int .i64 t261, .bool t262, .int .u64 t263, .int .i64 t264] (0, 0) _ rfl (by refine kb_ ?_; refine bp_ #[.int .i64 t261, .bool t262, .int .u64 t263, .int .i64 0] 3 ?_; refine bp_ #[.int .i64 t261, .bool t262, .int .u64 0, .int .i64 0] 2 ?_; refine bp_ #[.int .i64 t261, .bool false, .int .u64 0, .int .i64 0] 1 ?_; refine bp_ #[.int .i64 0, .bool false, .int .u64 0, .int .i64 0] 0 ?_; exact BK256.out) Tryd.underlying24 rfl (by kernel_rfl)) rfl ?_
  exact ⟨rf_, bw_ HB.out⟩
 ·rw [if_neg c4] at H
  have c4b0 : (t257 == 0) = false := beq_eq_false_iff_ne.mpr c4
  have c4b1 : (t257 != 0) = true := bne_iff_ne.mpr c4
  have HC14 := Aside0.mk H
  clear H
  go_enter Tryd.func13, Tryd.ntmps13
  go_upto_region 4 with (first | ((with_reducible refine gate_dst (N := 2) rfl ?_); refine bx_ 2 #[.int .i64 a0_0, .bool a0_1, .int .u64 a0_2, .int .i64 a0_3] 24 ?_; intro gb255 hg w15 hbox hb; have BK255 := Aside0.mk (hbox); have GW255 := ge_ hg HB; have GE255 := ge_ hg HB; replace HB := bq_ HB hb; clear hb hbox hg) | ((with_reducible refine gate_dst (N := 4) rfl ?_); refine bx_ 4 #[.int .i64 0, .bool false, .int .u64 0, .int .i64 0] 24 ?_; intro gb256 hg w16 hbox hb; have BK256 := Aside0.mk (hbox); have GW256 := ge_ hg HB; have GE256 := ge_ hg HB; have NB255_256 := nb_ hg BK255; have NB256_255 := nc_ hg BK255; replace BK255 := kq_ BK255 hb; replace HB := bq_ HB hb; clear hb hbox hg; have hnb17 := NB255_256.out; have hnc17 := NB256_255.out; obtain ⟨hcz18_0, hcz18_1, hcz18_2, hcz18_3, hfz18_0, hfz18_1, hfz18_2, hfz18_3⟩ := c4_ BK255) | ((with_reducible refine gate_callee (f := 29) rfl ?_); refine gl_ (some 6) Tryd.func29 #[.agg #[.int .i64 a0_0, .bool a0_1, .int .u64 a0_2, .int .i64 a0_3]] ?_; (with_reducible refine (num_fair.calls a0_0 a0_1 a0_2 a0_3 t257 t258 t259 t260 _ A3.out).mono ?_); rintro e w19 ⟨rfl, hb⟩; refine ⟨_, rfl, ?_⟩; replace BK255 := kq_ BK255 hb; replace BK256 := kq_ BK256 hb; replace HB := bq_ HB hb; (try clear hb); (try clear hb2); (try clear hk); (try clear hi); obtain ⟨hcz20_0, hcz20_1, hcz20_2, hcz20_3, hfz20_0, hfz20_1, hfz20_2, hfz20_3⟩ := c4_ BK255))
  (try simp only [Act.put, List.setIfInBounds_toArray, List.set_cons_zero, List.set_cons_succ])
  go_cut [14] (fun v14 wc => ∃ (kq : Nat) (x14_13 : Bool), v14 = .bool x14_13 ∧ Aside0 (num_Next.j0 kq a1 x14_13 t257 t258 t259 t260 = some (r1, r2, r3, r4)) ∧ Aside0 (kq ≤ k) ∧ Aside0 (wc.heap[gb255]? = some (.cells #[.int .i64 t257, .bool t258, .int .u64 t259, .int .i64 t260] 24 (0, 0))) ∧ Aside0 (wc.heap[gb256]? = some (.cells #[.int .i64 0, .bool false, .int .u64 0, .int .i64 0] 24 (0, 0))) ∧ Aside0 (Below w.heap.size w wc))
  case first =>
   have H := HC14.out
   clear HC14
   by_cases c21 : t257 = 2
   ·rw [if_pos c21] at H
    have c21b0 : (t257 == 2) = true := beq_iff_eq.mpr c21
    have c21b1 : (t257 != 2) = false := bne_eq_false_iff_eq.mpr c21
    clear c21
    (first | rw [c21b0] | (simp only [i64_w, i32_w]; rw [c21b0]) | skip)
    have H' := Aside0.mk H
    clear H
    have hnb22 := NB255_256.out
    have hnc22 := NB256_255.out
    obtain ⟨hcz23_0, hcz23_1, hcz23_2, hcz23_3, hfz23_0, hfz23_1, hfz23_2, hfz23_3⟩ := c4_ BK255
    go_wp2
    go_meet
    case rel => exact ⟨_, ((t258 == a1)), (by first | rfl | (simp; done) | (simp [*]; done)), H', ⟨by first | omega | exact Nat.le_refl _⟩, ⟨by refine kb_ ?_; refine bp_ #[.int .i64 t257, .bool t258, .int .u64 t259, .int .i64 a0_3] 3 ?_; refine bp_ #[.int .i64 t257, .bool t258, .int .u64 a0_2, .int .i64 a0_3] 2 ?_; refine bp_ #[.int .i64 t257, .bool a0_1, .int .u64 a0_2, .int .i64 a0_3] 1 ?_; refine bp_ #[.int .i64 a0_0, .bool a0_1, .int .u64 a0_2, .int .i64 a0_3] 0 ?_; exact BK255.out⟩, ⟨by refine kb_ ?_; refine bf_ NB256_255 ?_; refine bf_ NB256_255 ?_; refine bf_ NB256_255 ?_; refine bf_ NB256_255 ?_; exact BK256.out⟩, ⟨bw_ HB.out⟩⟩
   ·rw [if_neg c21] at H
    have c21b0 : (t257 == 2) = false := beq_eq_false_iff_ne.mpr c21
    have c21b1 : (t257 != 2) = true := bne_iff_ne.mpr c21
    (first | rw [c21b0] | (simp only [i64_w, i32_w]; rw [c21b0]) | skip)
    have H' := Aside0.mk H
    clear H
    have hnb24 := NB255_256.out
    have hnc24 := NB256_255.out
    obtain ⟨hcz25_0, hcz25_1, hcz25_2, hcz25_3, hfz25_0, hfz25_1, hfz25_2, hfz25_3⟩ := c4_ BK255
    go_wp2
    go_meet
    case rel => exact ⟨_, (false), (by first | rfl | (simp; done) | (simp [*]; done)), H', ⟨by first | omega | exact Nat.le_refl _⟩, ⟨by refine kb_ ?_; refine bp_ #[.int .i64 t257, .bool t258, .int .u64 t259, .int .i64 a0_3] 3 ?_; refine bp_ #[.int .i64 t257, .bool t258, .int .u64 a0_2, .int .i64 a0_3] 2 ?_; refine bp_ #[.int .i64 t257, .bool a0_1, .int .u64 a0_2, .int .i64 a0_3] 1 ?_; refine bp_ #[.int .i64 a0_0, .bool a0_1, .int .u64 a0_2, .int .i64 a0_3] 0 ?_; exact BK255.out⟩, ⟨by refine kb_ ?_; refine bf_ NB256_255 ?_; refine bf_ NB256_255 ?_; refine bf_ NB256_255 ?_; refine bf_ NB256_255 ?_; exact BK256.out⟩, ⟨bw_ HB.out⟩⟩
  case rest =>
   clear HC14
   try clear c1
   try clear c2
   try clear p2
   try clear c3
   try clear c4
   try clear c4b0
   try clear c4b1
   try clear c8
   try clear c13
   try clear c17
   try clear c21
   try clear c21b0
   try clear c21b1
   try clear c22
   try clear c24
   try clear hcz11_0 hcz11_1 hcz11_2 hcz11_3
   try clear hcz13_0 hcz13_1 hcz13_2 hcz13_3
   try clear hcz18_0 hcz18_1 hcz18_2 hcz18_3
   try clear hcz20_0 hcz20_1 hcz20_2 hcz20_3
   try clear hcz23_0 hcz23_1 hcz23_2 hcz23_3
   try clear hcz25_0 hcz25_1 hcz25_2 hcz25_3
   try clear hcz9_0 hcz9_1 hcz9_2 hcz9_3
   try clear hfz11_0 hfz11_1 hfz11_2 hfz11_3
   try clear hfz13_0 hfz13_1 hfz13_2 hfz13_3
   try clear hfz18_0 hfz18_1 hfz18_2 hfz18_3
   try clear hfz20_0 hfz20_1 hfz20_2 hfz20_3
   try clear hfz23_0 hfz23_1 hfz23_2 hfz23_3
   try clear hfz25_0 hfz25_1 hfz25_2 hfz25_3
   try clear hfz9_0 hfz9_1 hfz9_2 hfz9_3
   obtain ⟨kq, x14_13, rfl, HA, HJ13, BK255, BK256, HB⟩ := hcut
   cases kq with
   | zero => exact absurd HA.out (by simp [num_Next.j0])
   | succ kj13 =>
    have H := HA.out
    clear HA
    simp only [num_Next.j0] at H
    by_cases c26 : x14_13 = true
    ·subst c26
     have H1 : ((num_huge.f t258).bind fun bt265 => (some (bt265.1, bt265.2.1, bt265.2.2.1, bt265.2.2.2))) = some (r1, r2, r3, r4) := by rw [if_pos rfl] at H; exact H
     clear H
     have H := H1
     clear H1
     replace H := Option.bind_eq_some_iff.mp H
     obtain ⟨⟨t265, t266, t267, t268⟩, A270, H⟩ := H
     (try dsimp only at H)
     have A27 := Aside0.mk A270
     clear A270
     simp only [Option.some.injEq, Prod.mk.injEq] at H
     obtain ⟨rfl, rfl, rfl, rfl⟩ := H
     have hnb28 := NB255_256.out
     have hnc28 := NB256_255.out
     obtain ⟨hcz29_0, hcz29_1, hcz29_2, hcz29_3, hfz29_0, hfz29_1, hfz29_2, hfz29_3⟩ := c4_ BK255
     go_wp2_with (first | ((with_reducible refine gate_callee (f := 31) rfl ?_); refine gl_ (some 26) Tryd.func31 #[.bool t258] ?_; (with_reducible refine (num_huge.calls t258 t265 t266 t267 t268 _ A27.out).mono ?_); rintro e w30 ⟨rfl, hb⟩; refine ⟨_, rfl, ?_⟩; replace BK255 := kq_ BK255 hb; replace BK256 := kq_ BK256 hb; replace HB := bq_ HB hb; (try clear hb); (try clear hb2); (try clear hk); (try clear hi); obtain ⟨hcz31_0, hcz31_1, hcz31_2, hcz31_3, hfz31_0, hfz31_1, hfz31_2, hfz31_3⟩ := c4_ BK256))
     refine bodyPost_ret (results_cell_row rfl _ _ gb256 24 #[.int .i64 t265, .bool t266, .int .u64 t267, .int .i64 t268] (0, 0) _ rfl (by refine kb_ ?_; refine bp_ #[.int .i64 t265, .bool t266, .int .u64 t267, .int .i64 0] 3 ?_; refine bp_ #[.int .i64 t265, .bool t266, .int .u64 0, .int .i64 0] 2 ?_; refine bp_ #[.int .i64 t265, .bool false, .int .u64 0, .int .i64 0] 1 ?_; refine bp_ #[.int .i64 0, .bool false, .int .u64 0, .int .i64 0] 0 ?_; exact BK256.out) Tryd.underlying24 rfl (by kernel_rfl)) rfl ?_
     exact ⟨rf_, bw_ HB.out⟩
    ·replace c26 := Bool.eq_false_iff.mpr c26
     subst c26
     have H1 : (if t257 = 2 then (some (t257, t258, t259, t260)) else (if (t258 != a1) = true then ((num_Grow.f kj13 t258 t259 t260 true true).bind fun bt269 => (some (bt269.1, bt269.2.1, bt269.2.2.1, bt269.2.2.2))) else (if t259 = 9223372036854775808 then ((num_Bound.f kj13 t258 18446744073709551615 (wrap64 (t260 - 1)) false).bind fun bt273 => (some (bt273.1, bt273.2.1, bt273.2.2.1, bt273.2.2.2))) else (some (t257, t258, IntKind.u64.wrap (t259 - 1), t260))))) = some (r1, r2, r3, r4) := by rw [if_neg (show ¬ (false = true) by decide)] at H; exact H
     clear H
     have H := H1
     clear H1
     by_cases c32 : t257 = 2
     ·rw [if_pos c32] at H
      have c32b0 : (t257 == 2) = true := beq_iff_eq.mpr c32
      have c32b1 : (t257 != 2) = false := bne_eq_false_iff_eq.mpr c32
      clear c32
      simp only [Option.some.injEq, Prod.mk.injEq] at H
      obtain ⟨rfl, rfl, rfl, rfl⟩ := H
      have hnb33 := NB255_256.out
      have hnc33 := NB256_255.out
      obtain ⟨hcz34_0, hcz34_1, hcz34_2, hcz34_3, hfz34_0, hfz34_1, hfz34_2, hfz34_3⟩ := c4_ BK255
      obtain ⟨hcz35_0, hcz35_1, hcz35_2, hcz35_3, hfz35_0, hfz35_1, hfz35_2, hfz35_3⟩ := c4_ BK256
      go_wp2
      refine bodyPost_ret (results_cell_row rfl _ _ gb256 24 #[.int .i64 t257, .bool t258, .int .u64 t259, .int .i64 t260] (0, 0) _ rfl (by refine kb_ ?_; refine bp_ #[.int .i64 t257, .bool t258, .int .u64 t259, .int .i64 0] 3 ?_; refine bp_ #[.int .i64 t257, .bool t258, .int .u64 0, .int .i64 0] 2 ?_; refine bp_ #[.int .i64 t257, .bool false, .int .u64 0, .int .i64 0] 1 ?_; refine bp_ #[.int .i64 0, .bool false, .int .u64 0, .int .i64 0] 0 ?_; exact BK256.out) Tryd.underlying24 rfl (by kernel_rfl)) rfl ?_
      exact ⟨rf_, bw_ HB.out⟩
     ·rw [if_neg c32] at H
      have c32b0 : (t257 == 2) = false := beq_eq_false_iff_ne.mpr c32
      have c32b1 : (t257 != 2) = true := bne_iff_ne.mpr c32
      by_cases c36 : (t258 != a1) = true
      ·rw [if_pos c36] at H
       have c36b0 : (t258 != a1) = true := c36
       (try (have c36b1 : decide (t258 = a1) = false := by simpa using c36))
       (try (have c36b2 : (t258 == a1) = false := by simpa using c36))
       (try (have c36b3 : ¬ (t258 = a1) := by simpa using c36))
       clear c36
       replace H := Option.bind_eq_some_iff.mp H
       obtain ⟨⟨t269, t270, t271, t272⟩, A370, H⟩ := H
       (try dsimp only at H)
       have A37 := Aside0.mk A370
       clear A370
       simp only [Option.some.injEq, Prod.mk.injEq] at H
       obtain ⟨rfl, rfl, rfl, rfl⟩ := H
       have hnb38 := NB255_256.out
       have hnc38 := NB256_255.out
       obtain ⟨hcz39_0, hcz39_1, hcz39_2, hcz39_3, hfz39_0, hfz39_1, hfz39_2, hfz39_3⟩ := c4_ BK255
       go_wp2_with (first | ((with_reducible refine gate_callee (f := 27) rfl ?_); refine gl_ (some 43) Tryd.func27 #[.bool t258, .int .u64 t259, .int .i64 t260, .bool true, .bool true] ?_; (with_reducible refine (num_Grow.calls kj13 t258 t259 t260 true true t269 t270 t271 t272 _ A37.out).mono ?_); rintro e w40 ⟨rfl, hb⟩; refine ⟨_, rfl, ?_⟩; replace BK255 := kq_ BK255 hb; replace BK256 := kq_ BK256 hb; replace HB := bq_ HB hb; (try clear hb); (try clear hb2); (try clear hk); (try clear hi); obtain ⟨hcz41_0, hcz41_1, hcz41_2, hcz41_3, hfz41_0, hfz41_1, hfz41_2, hfz41_3⟩ := c4_ BK256))
       refine bodyPost_ret (results_cell_row rfl _ _ gb256 24 #[.int .i64 t269, .bool t270, .int .u64 t271, .int .i64 t272] (0, 0) _ rfl (by refine kb_ ?_; refine bp_ #[.int .i64 t269, .bool t270, .int .u64 t271, .int .i64 0] 3 ?_; refine bp_ #[.int .i64 t269, .bool t270, .int .u64 0, .int .i64 0] 2 ?_; refine bp_ #[.int .i64 t269, .bool false, .int .u64 0, .int .i64 0] 1 ?_; refine bp_ #[.int .i64 0, .bool false, .int .u64 0, .int .i64 0] 0 ?_; exact BK256.out) Tryd.underlying24 rfl (by kernel_rfl)) rfl ?_
       exact ⟨rf_, bw_ HB.out⟩
      ·rw [if_neg c36] at H
       have c36b0 : (t258 != a1) = false := by simpa using c36
       (try (have c36b1 : decide (t258 = a1) = true := by simpa using c36))
       (try (have c36b2 : (t258 == a1) = true := by simpa using c36))
       clear c36
       by_cases c42 : t259 = 9223372036854775808
       ·rw [if_pos c42] at H
        have c42b0 : (t259 == 9223372036854775808) = true := beq_iff_eq.mpr c42
        have c42b1 : (t259 != 9223372036854775808) = false := bne_eq_false_iff_eq.mpr c42
        clear c42
        replace H := Option.bind_eq_some_iff.mp H
        obtain ⟨⟨t273, t274, t275, t276⟩, A430, H⟩ := H
        (try dsimp only at H)
        have A43 := Aside0.mk A430
        clear A430
        simp only [Option.some.injEq, Prod.mk.injEq] at H
        obtain ⟨rfl, rfl, rfl, rfl⟩ := H
        have hnb44 := NB255_256.out
        have hnc44 := NB256_255.out
        obtain ⟨hcz45_0, hcz45_1, hcz45_2, hcz45_3, hfz45_0, hfz45_1, hfz45_2, hfz45_3⟩ := c4_ BK255
        go_wp2_with (first | ((with_reducible refine gate_callee (f := 32) rfl ?_); refine gl_ (some 53) Tryd.func32 #[.bool t258, .int .u64 18446744073709551615, .int .i64 (wrap64 (t260 - 1)), .bool false] ?_; (with_reducible refine (num_Bound.calls kj13 t258 18446744073709551615 (wrap64 (t260 - 1)) false t273 t274 t275 t276 _ A43.out).mono ?_); rintro e w46 ⟨rfl, hb⟩; refine ⟨_, rfl, ?_⟩; replace BK255 := kq_ BK255 hb; replace BK256 := kq_ BK256 hb; replace HB := bq_ HB hb; (try clear hb); (try clear hb2); (try clear hk); (try clear hi); obtain ⟨hcz47_0, hcz47_1, hcz47_2, hcz47_3, hfz47_0, hfz47_1, hfz47_2, hfz47_3⟩ := c4_ BK256))
        refine bodyPost_ret (results_cell_row rfl _ _ gb256 24 #[.int .i64 t273, .bool t274, .int .u64 t275, .int .i64 t276] (0, 0) _ rfl (by refine kb_ ?_; refine bp_ #[.int .i64 t273, .bool t274, .int .u64 t275, .int .i64 0] 3 ?_; refine bp_ #[.int .i64 t273, .bool t274, .int .u64 0, .int .i64 0] 2 ?_; refine bp_ #[.int .i64 t273, .bool false, .int .u64 0, .int .i64 0] 1 ?_; refine bp_ #[.int .i64 0, .bool false, .int .u64 0, .int .i64 0] 0 ?_; exact BK256.out) Tryd.underlying24 rfl (by kernel_rfl)) rfl ?_
        exact ⟨rf_, bw_ HB.out⟩
       ·rw [if_neg c42] at H
        have c42b0 : (t259 == 9223372036854775808) = false := beq_eq_false_iff_ne.mpr c42
        have c42b1 : (t259 != 9223372036854775808) = true := bne_iff_ne.mpr c42
        simp only [Option.some.injEq, Prod.mk.injEq] at H
        obtain ⟨rfl, rfl, rfl, rfl⟩ := H
        have hnb48 := NB255_256.out
        have hnc48 := NB256_255.out
        obtain ⟨hcz49_0, hcz49_1, hcz49_2, hcz49_3, hfz49_0, hfz49_1, hfz49_2, hfz49_3⟩ := c4_ BK255
        obtain ⟨hcz50_0, hcz50_1, hcz50_2, hcz50_3, hfz50_0, hfz50_1, hfz50_2, hfz50_3⟩ := c4_ BK256
        go_wp2
        refine bodyPost_ret (results_cell_row rfl _ _ gb256 24 #[.int .i64 t257, .bool t258, .int .u64 (IntKind.u64.wrap (t259 - 1)), .int .i64 t260] (0, 0) _ rfl (by refine kb_ ?_; refine bp_ #[.int .i64 t257, .bool t258, .int .u64 (IntKind.u64.wrap (t259 - 1)), .int .i64 0] 3 ?_; refine bp_ #[.int .i64 t257, .bool t258, .int .u64 0, .int .i64 0] 2 ?_; refine bp_ #[.int .i64 t257, .bool false, .int .u64 0, .int .i64 0] 1 ?_; refine bp_ #[.int .i64 0, .bool false, .int .u64 0, .int .i64 0] 0 ?_; refine bf_ NB256_255 ?_; exact BK256.out) Tryd.underlying24 rfl (by kernel_rfl)) rfl ?_
        exact ⟨rf_, bw_ HB.out⟩

end Go.Proofs.YthlhogcnfaiphaaDoor.PA
