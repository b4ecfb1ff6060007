-- Laid by this work's own program; Lean checks it.
import Derived.Test.YthlhogcnfaiphaaPAx0
import Derived.Test.YthlhogcnfaiphaaPAx2
import Derived.Test.YthlhogcnfaiphaaPAx5
import Derived.Test.YthlhogcnfaiphaaPAx8
namespace Go.Proofs.Ythlhogcnfaiphaa.PA
open Go.RowKit Go.Proofs.YthlhogcnfaiphaaW.PrintWords Go.Proofs.YthlhogcnfaiphaaW.PrintLast Go.Proofs.YthlhogcnfaiphaaW.PrintMore
attribute [local go_sem] max2_int min2_int max_two min_two max_three min_three max_four min_four   -- for this text's walks alone
set_option linter.unusedVariables false
set_option linter.unusedSimpArgs false

attribute [local go_sem ↓ high] isSome_set_
/-! ### arith_Sub: function 16 -/
set_option maxHeartbeats 8000000 in
set_option maxRecDepth 100000 in
theorem arith_Sub.calls (k : Nat) (a0_0 : Int) (a0_1 : Bool) (a0_2 : Int) (a0_3 : Int) (a1_0 : Int) (a1_1 : Bool) (a1_2 : Int) (a1_3 : Int) (a2 : Bool) (r1 : Int) (r2 : Bool) (r3 : Int) (r4 : Int) (w : World) (h : arith_Sub.f k a0_0 a0_1 a0_2 a0_3 a1_0 a1_1 a1_2 a1_3 a2 = some (r1, r2, r3, r4)) :
  Calls Try.prog 16 #[.agg #[.int .i64 a0_0, .bool a0_1, .int .u64 a0_2, .int .i64 a0_3], .agg #[.int .i64 a1_0, .bool a1_1, .int .u64 a1_2, .int .i64 a1_3], .bool a2] w fun e w' => e = .returned (.agg #[.int .i64 r1, .bool r2, .int .u64 r3, .int .i64 r4]) ∧ Below w.heap.size w w' := by
 have hu24 := Try.underlying24
 have HB := Aside0.mk (Below.refl w.heap.size w)
 have H : ((num_Neg.f a1_0 a1_1 a1_2 a1_3).bind fun bt696 => ((arith_Add.f k a0_0 a0_1 a0_2 a0_3 bt696.1 bt696.2.1 bt696.2.2.1 bt696.2.2.2 a2).bind fun bt700 => (some (bt700.1, bt700.2.1, bt700.2.2.1, bt700.2.2.2)))) = some (r1, r2, r3, r4) := h
 clear h
 replace H := Option.bind_eq_some_iff.mp H
 obtain ⟨⟨t696, t697, t698, t699⟩, A40, H⟩ := H
 (try dsimp only at H)
 have A4 := Aside0.mk A40
 clear A40
 replace H := Option.bind_eq_some_iff.mp H
 obtain ⟨⟨t700, t701, t702, t703⟩, A50, H⟩ := H
 (try dsimp only at H)
 have A5 := Aside0.mk A50
 clear A50
 simp only [Option.some.injEq, Prod.mk.injEq] at H
 obtain ⟨rfl, rfl, rfl, rfl⟩ := H
 go_enter Try.func16, Try.ntmps16
 try go_wp2_with (first | ((with_reducible refine gate_dst (N := 3) rfl ?_); refine bx_ 3 #[.int .i64 a0_0, .bool a0_1, .int .u64 a0_2, .int .i64 a0_3] 24 ?_; intro gb693 hg w6 hbox hb; have n0_ := bq_ HB hb; have n1_ := Aside0.mk (hbox); have n2_ := ge_ hg HB; have n3_ := ge_ hg HB; clear HB; have HB := n0_; have BK693 := n1_; have GW693 := n2_; have GE693 := n3_; clear n0_ n1_ n2_ n3_; clear hb hbox hg) | ((with_reducible refine gate_dst (N := 4) rfl ?_); refine bx_ 4 #[.int .i64 a1_0, .bool a1_1, .int .u64 a1_2, .int .i64 a1_3] 24 ?_; intro gb694 hg w7 hbox hb; have n0_ := kq_ BK693 hb; have n1_ := bq_ HB hb; have n2_ := Aside0.mk (hbox); have n3_ := ge_ hg HB; have n4_ := ge_ hg HB; have n5_ := nb_ hg BK693; have n6_ := nc_ hg BK693; clear BK693; clear HB; have BK693 := n0_; have HB := n1_; have BK694 := n2_; have GW694 := n3_; have GE694 := n4_; have NB693_694 := n5_; have NB694_693 := n6_; clear n0_ n1_ n2_ n3_ n4_ n5_ n6_; clear hb hbox hg) | ((with_reducible refine gate_dst (N := 6) rfl ?_); refine bx_ 6 #[.int .i64 0, .bool false, .int .u64 0, .int .i64 0] 24 ?_; intro gb695 hg w8 hbox hb; have n0_ := kq_ BK693 hb; have n1_ := kq_ BK694 hb; have n2_ := bq_ HB hb; have n3_ := Aside0.mk (hbox); have n4_ := ge_ hg HB; have n5_ := ge_ hg HB; have n6_ := nb_ hg BK693; have n7_ := nc_ hg BK693; have n8_ := nb_ hg BK694; have n9_ := nc_ hg BK694; clear BK693; clear BK694; clear HB; have BK693 := n0_; have BK694 := n1_; have HB := n2_; have BK695 := n3_; have GW695 := n4_; have GE695 := n5_; have NB693_695 := n6_; have NB695_693 := n7_; have NB694_695 := n8_; have NB695_694 := n9_; clear n0_ n1_ n2_ n3_ n4_ n5_ n6_ n7_ n8_ n9_; clear hb hbox hg))
 have n0_ := Aside0.mk (blk_drew BK693.out)
 have n1_ := Aside0.mk (blk_drew BK694.out)
 have n2_ := Aside0.mk (blk_drew BK695.out)
 have n3_ := Aside0.mk (below_drew1 HB.out)
 clear BK693
 clear BK694
 clear BK695
 clear HB
 have BK693 := n0_
 have BK694 := n1_
 have BK695 := n2_
 have HB := n3_
 clear n0_ n1_ n2_ n3_
 refine start_ (n := 6) (S := fun w' => w'.cell? ⟨gb693, 0, none⟩ = some (.int .i64 a0_0) ∧ w'.cell? ⟨gb693, 1, none⟩ = some (.bool a0_1) ∧ w'.cell? ⟨gb693, 2, none⟩ = some (.int .u64 a0_2) ∧ w'.cell? ⟨gb693, 3, none⟩ = some (.int .i64 a0_3) ∧ w'.cell? ⟨gb694, 0, none⟩ = some (.int .i64 a1_0) ∧ w'.cell? ⟨gb694, 1, none⟩ = some (.bool a1_1) ∧ w'.cell? ⟨gb694, 2, none⟩ = some (.int .u64 a1_2) ∧ w'.cell? ⟨gb694, 3, none⟩ = some (.int .i64 a1_3)) (ds := []) #[false, false, false, false, false, false] (by kernel_rfl) rfl rfl ⟨(blk_cell BK693.out 0).trans rfl, (blk_cell BK693.out 1).trans rfl, (blk_cell BK693.out 2).trans rfl, (blk_cell BK693.out 3).trans rfl, (blk_cell BK694.out 0).trans rfl, (blk_cell BK694.out 1).trans rfl, (blk_cell BK694.out 2).trans rfl, (blk_cell BK694.out 3).trans rfl⟩ (fun hHeld => ?_)
 generalize w8.drew = w9 at BK693 BK694 BK695 HB hHeld ⊢
 refine pure_ (i := 3) (N := some 10) (v := ?_) (a' := ?_) #[false, false, false, true, false, false] rfl rfl (by kernel_rfl) (fun _ _ _ h => h) (Or.inl ⟨by rfl, ?_⟩) ?_ ?_
 rotate_left
 ·intro w'
  go_simp
  with_reducible rfl
 rotate_left
 ·simp only [Act.put, List.setIfInBounds_toArray, List.set_cons_zero, List.set_cons_succ, i64_w, i32_w]
  rfl
 refine take_ (i := 0) (N := some 7) (v := ?_) (a' := ?_) #[true, false, false, true, false, false] rfl rfl (by kernel_rfl) (fun _ _ _ h => h) (Or.inl ⟨by rfl, ?_⟩) hHeld ?_ ?_
 rotate_left
 ·rintro w' ⟨s0, s1, s2, s3, s4, s5, s6, s7⟩
  go_simp
  with_reducible rfl
 rotate_left
 ·simp only [Act.put, List.setIfInBounds_toArray, List.set_cons_zero, List.set_cons_succ, i64_w, i32_w]
  rfl
 refine take_ (i := 1) (N := some 8) (v := ?_) (a' := ?_) #[true, true, false, true, false, false] rfl rfl (by kernel_rfl) (fun _ _ _ h => h) (Or.inl ⟨by rfl, ?_⟩) hHeld ?_ ?_
 rotate_left
 ·rintro w' ⟨s0, s1, s2, s3, s4, s5, s6, s7⟩
  go_simp
  with_reducible rfl
 rotate_left
 ·simp only [Act.put, List.setIfInBounds_toArray, List.set_cons_zero, List.set_cons_succ, i64_w, i32_w]
  rfl
 refine one_ (i := 2) (N := some 9) #[true, true, true, true, false, false] rfl rfl (by kernel_rfl) (by decide) (fun K hK => ?_)
 refine gs_ Try.func12 #[.agg #[.int .i64 a1_0, .bool a1_1, .int .u64 a1_2, .int .i64 a1_3]] ?_
 with_reducible refine (num_Neg.calls a1_0 a1_1 a1_2 a1_3 t696 t697 t698 t699 _ A4.out).mono ?_
 rintro e w10 ⟨rfl, hb⟩
 refine ⟨_, rfl, ?_⟩
 have n0_ := kq_ BK693 hb
 have n1_ := kq_ BK694 hb
 have n2_ := kq_ BK695 hb
 have n3_ := bq_ HB hb
 clear BK693
 clear BK694
 clear BK695
 clear HB
 have BK693 := n0_
 have BK694 := n1_
 have BK695 := n2_
 have HB := n3_
 clear n0_ n1_ n2_ n3_
 (try clear hb)
 (try clear hb2)
 (try clear hk)
 (try clear hi)
 refine hK.out _ _ ⟨(blk_cell BK693.out 0).trans rfl, (blk_cell BK693.out 1).trans rfl, (blk_cell BK693.out 2).trans rfl, (blk_cell BK693.out 3).trans rfl, (blk_cell BK694.out 0).trans rfl, (blk_cell BK694.out 1).trans rfl, (blk_cell BK694.out 2).trans rfl, (blk_cell BK694.out 3).trans rfl⟩ (fun hHeld => ?_)
 clear hK K
 refine norm_ (a' := ?_) ?_ ?_
 rotate_left
 ·show Act.put _ (some 9) _ = _
  simp only [Act.put, List.setIfInBounds_toArray, List.set_cons_zero, List.set_cons_succ, i64_w, i32_w]
  rfl
 refine one_ (i := 4) (N := some 11) #[true, true, true, true, true, false] rfl rfl (by kernel_rfl) (by decide) (fun K hK => ?_)
 refine gs_ Try.func11 #[.agg #[.int .i64 a0_0, .bool a0_1, .int .u64 a0_2, .int .i64 a0_3], .agg #[.int .i64 t696, .bool t697, .int .u64 t698, .int .i64 t699], .bool a2] ?_
 with_reducible refine (arith_Add.calls k a0_0 a0_1 a0_2 a0_3 t696 t697 t698 t699 a2 t700 t701 t702 t703 _ A5.out).mono ?_
 rintro e w11 ⟨rfl, hb⟩
 refine ⟨_, rfl, ?_⟩
 have n0_ := kq_ BK693 hb
 have n1_ := kq_ BK694 hb
 have n2_ := kq_ BK695 hb
 have n3_ := bq_ HB hb
 clear BK693
 clear BK694
 clear BK695
 clear HB
 have BK693 := n0_
 have BK694 := n1_
 have BK695 := n2_
 have HB := n3_
 clear n0_ n1_ n2_ n3_
 (try clear hb)
 (try clear hb2)
 (try clear hk)
 (try clear hi)
 refine hK.out _ _ ⟨(blk_cell BK693.out 0).trans rfl, (blk_cell BK693.out 1).trans rfl, (blk_cell BK693.out 2).trans rfl, (blk_cell BK693.out 3).trans rfl, (blk_cell BK694.out 0).trans rfl, (blk_cell BK694.out 1).trans rfl, (blk_cell BK694.out 2).trans rfl, (blk_cell BK694.out 3).trans rfl⟩ (fun hHeld => ?_)
 clear hK K
 refine norm_ (a' := ?_) ?_ ?_
 rotate_left
 ·show Act.put _ (some 11) _ = _
  simp only [Act.put, List.setIfInBounds_toArray, List.set_cons_zero, List.set_cons_succ, i64_w, i32_w]
  rfl
 refine one_ (i := 5) (N := none) #[true, true, true, true, true, true] rfl rfl (by kernel_rfl) (by decide) (fun K hK => ?_)
 have hs12 : w11.cell? ⟨gb695, 0, none⟩ = some (.int .i64 0) := (blk_cell BK695.out 0).trans rfl
 have hfs12 := fz_ BK695 0
 have hns12_0 := NB693_695.out
 have hns12_1 := NB694_695.out
 have hms12_0 := NB695_693.out
 have hms12_1 := NB695_694.out
 have hs13 : w11.cell? ⟨gb695, 1, none⟩ = some (.bool false) := (blk_cell BK695.out 1).trans rfl
 have hfs13 := fz_ BK695 1
 have hns13_0 := NB693_695.out
 have hns13_1 := NB694_695.out
 have hms13_0 := NB695_693.out
 have hms13_1 := NB695_694.out
 have hs14 : w11.cell? ⟨gb695, 2, none⟩ = some (.int .u64 0) := (blk_cell BK695.out 2).trans rfl
 have hfs14 := fz_ BK695 2
 have hns14_0 := NB693_695.out
 have hns14_1 := NB694_695.out
 have hms14_0 := NB695_693.out
 have hms14_1 := NB695_694.out
 have hs15 : w11.cell? ⟨gb695, 3, none⟩ = some (.int .i64 0) := (blk_cell BK695.out 3).trans rfl
 have hfs15 := fz_ BK695 3
 have hns15_0 := NB693_695.out
 have hns15_1 := NB694_695.out
 have hms15_0 := NB695_693.out
 have hms15_1 := NB695_694.out
 refine skip_ (w1 := ?_) (by rfl) rfl ?_ ?_
 rotate_left
 ·go_simp
  rfl
 refine hK.out _ _ ⟨((cell_far (p := ⟨gb695, _, none⟩) NB693_695.out _).trans (((cell_far (p := ⟨gb695, _, none⟩) NB693_695.out _).trans (((cell_far (p := ⟨gb695, _, none⟩) NB693_695.out _).trans (((cell_far (p := ⟨gb695, _, none⟩) NB693_695.out _).trans (hHeld.1)))))))), ((cell_far (p := ⟨gb695, _, none⟩) NB693_695.out _).trans (((cell_far (p := ⟨gb695, _, none⟩) NB693_695.out _).trans (((cell_far (p := ⟨gb695, _, none⟩) NB693_695.out _).trans (((cell_far (p := ⟨gb695, _, none⟩) NB693_695.out _).trans (hHeld.2.1)))))))), ((cell_far (p := ⟨gb695, _, none⟩) NB693_695.out _).trans (((cell_far (p := ⟨gb695, _, none⟩) NB693_695.out _).trans (((cell_far (p := ⟨gb695, _, none⟩) NB693_695.out _).trans (((cell_far (p := ⟨gb695, _, none⟩) NB693_695.out _).trans (hHeld.2.2.1)))))))), ((cell_far (p := ⟨gb695, _, none⟩) NB693_695.out _).trans (((cell_far (p := ⟨gb695, _, none⟩) NB693_695.out _).trans (((cell_far (p := ⟨gb695, _, none⟩) NB693_695.out _).trans (((cell_far (p := ⟨gb695, _, none⟩) NB693_695.out _).trans (hHeld.2.2.2.1)))))))), ((cell_far (p := ⟨gb695, _, none⟩) NB694_695.out _).trans (((cell_far (p := ⟨gb695, _, none⟩) NB694_695.out _).trans (((cell_far (p := ⟨gb695, _, none⟩) NB694_695.out _).trans (((cell_far (p := ⟨gb695, _, none⟩) NB694_695.out _).trans (hHeld.2.2.2.2.1)))))))), ((cell_far (p := ⟨gb695, _, none⟩) NB694_695.out _).trans (((cell_far (p := ⟨gb695, _, none⟩) NB694_695.out _).trans (((cell_far (p := ⟨gb695, _, none⟩) NB694_695.out _).trans (((cell_far (p := ⟨gb695, _, none⟩) NB694_695.out _).trans (hHeld.2.2.2.2.2.1)))))))), ((cell_far (p := ⟨gb695, _, none⟩) NB694_695.out _).trans (((cell_far (p := ⟨gb695, _, none⟩) NB694_695.out _).trans (((cell_far (p := ⟨gb695, _, none⟩) NB694_695.out _).trans (((cell_far (p := ⟨gb695, _, none⟩) NB694_695.out _).trans (hHeld.2.2.2.2.2.2.1)))))))), ((cell_far (p := ⟨gb695, _, none⟩) NB694_695.out _).trans (((cell_far (p := ⟨gb695, _, none⟩) NB694_695.out _).trans (((cell_far (p := ⟨gb695, _, none⟩) NB694_695.out _).trans (((cell_far (p := ⟨gb695, _, none⟩) NB694_695.out _).trans (hHeld.2.2.2.2.2.2.2))))))))⟩ (fun hHeld => ?_)
 clear hK K
 refine done_ (by kernel_rfl) ?_
 try go_wp2
 refine bodyPost_ret (results_cell_row rfl _ _ gb695 24 #[.int .i64 t700, .bool t701, .int .u64 t702, .int .i64 t703] (0, 0) _ rfl (by refine kb_ ?_; refine bp_ #[.int .i64 t700, .bool t701, .int .u64 t702, .int .i64 0] 3 ?_; refine bp_ #[.int .i64 t700, .bool t701, .int .u64 0, .int .i64 0] 2 ?_; refine bp_ #[.int .i64 t700, .bool false, .int .u64 0, .int .i64 0] 1 ?_; refine bp_ #[.int .i64 0, .bool false, .int .u64 0, .int .i64 0] 0 ?_; exact BK695.out) Try.underlying24 rfl (by kernel_rfl)) rfl ?_
 exact ⟨by first | rfl | (simp [errW_none, errW_some] <;> rfl) | (simp [*, errW_none, errW_some] <;> rfl), bw_ HB.out⟩

end Go.Proofs.Ythlhogcnfaiphaa.PA
