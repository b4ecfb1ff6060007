-- Laid by this work's own program; Lean checks it.
import Derived.Test.YthlhogcnfaiphaaPAx0
import Derived.Test.YthlhogcnfaiphaaPAx2
import Derived.Test.YthlhogcnfaiphaaPAx6
import Derived.Test.YthlhogcnfaiphaaPAx7
namespace Go.Proofs.Ythlhogcnfaiphaa.PA
open Go.RowKit Go.Proofs.YthlhogcnfaiphaaW.PrintWords Go.Proofs.YthlhogcnfaiphaaW.PrintLast Go.Proofs.YthlhogcnfaiphaaW.PrintMore
attribute [local go_sem] max2_int min2_int max_two min_two max_three min_three max_four min_four   -- for this text's walks alone
set_option linter.unusedVariables false
set_option linter.unusedSimpArgs false

attribute [local go_sem ↓ high] isSome_set_
/-! ### arith_Half: function 20 -/
set_option maxHeartbeats 8000000 in
set_option maxRecDepth 100000 in
theorem arith_Half.calls (k : Nat) (a0_0 : Int) (a0_1 : Bool) (a0_2 : Int) (a0_3 : Int) (a1 : Bool) (r1 : Int) (r2 : Bool) (r3 : Int) (r4 : Int) (w : World) (h : arith_Half.f k a0_0 a0_1 a0_2 a0_3 a1 = some (r1, r2, r3, r4)) :
  Calls Try.prog 20 #[.agg #[.int .i64 a0_0, .bool a0_1, .int .u64 a0_2, .int .i64 a0_3], .bool a1] w fun e w' => e = .returned (.agg #[.int .i64 r1, .bool r2, .int .u64 r3, .int .i64 r4]) ∧ Below w.heap.size w w' := by
 have hu24 := Try.underlying24
 have HB := Aside0.mk (Below.refl w.heap.size w)
 have H : ((num_Of.f k 1).bind fun bt824 => ((arith_Mul.f k a0_0 a0_1 a0_2 a0_3 bt824.1 bt824.2.1 bt824.2.2.1 (wrap64 (bt824.2.2.2 - 1)) a1).bind fun bt829 => (some (bt829.1, bt829.2.1, bt829.2.2.1, bt829.2.2.2)))) = some (r1, r2, r3, r4) := h
 clear h
 replace H := Option.bind_eq_some_iff.mp H
 obtain ⟨⟨t824, t825, t826, t827⟩, A30, H⟩ := H
 (try dsimp only at H)
 have A3 := Aside0.mk A30
 clear A30
 replace H := Option.bind_eq_some_iff.mp H
 obtain ⟨⟨t829, t830, t831, t832⟩, A40, H⟩ := H
 (try dsimp only at H)
 have A4 := Aside0.mk A40
 clear A40
 simp only [Option.some.injEq, Prod.mk.injEq] at H
 obtain ⟨rfl, rfl, rfl, rfl⟩ := H
 go_enter Try.func20, Try.ntmps20
 go_wp2_with (first | ((with_reducible refine gate_dst (N := 2) rfl ?_); refine bx_ 2 #[.int .i64 a0_0, .bool a0_1, .int .u64 a0_2, .int .i64 a0_3] 24 ?_; intro gb822 hg w5 hbox hb; have n0_ := bq_ HB hb; have n1_ := Aside0.mk (hbox); have n2_ := ge_ hg HB; have n3_ := ge_ hg HB; clear HB; have HB := n0_; have BK822 := n1_; have GW822 := n2_; have GE822 := n3_; clear n0_ n1_ n2_ n3_; clear hb hbox hg) | ((with_reducible refine gate_dst (N := 4) rfl ?_); refine bx_ 4 #[.int .i64 0, .bool false, .int .u64 0, .int .i64 0] 24 ?_; intro gb823 hg w6 hbox hb; have n0_ := kq_ BK822 hb; have n1_ := bq_ HB hb; have n2_ := Aside0.mk (hbox); have n3_ := ge_ hg HB; have n4_ := ge_ hg HB; have n5_ := nb_ hg BK822; have n6_ := nc_ hg BK822; clear BK822; clear HB; have BK822 := n0_; have HB := n1_; have BK823 := n2_; have GW823 := n3_; have GE823 := n4_; have NB822_823 := n5_; have NB823_822 := n6_; clear n0_ n1_ n2_ n3_ n4_ n5_ n6_; clear hb hbox hg) | ((with_reducible refine gate_callee (f := 25) rfl ?_); refine gl_ (some 6) Try.func25 #[.int .i64 1] ?_; (with_reducible refine (num_Of.calls k 1 t824 t825 t826 t827 _ A3.out).mono ?_); rintro e w7 ⟨rfl, hb⟩; refine ⟨_, rfl, ?_⟩; have n0_ := kq_ BK822 hb; have n1_ := kq_ BK823 hb; have n2_ := bq_ HB hb; clear BK822; clear BK823; clear HB; have BK822 := n0_; have BK823 := n1_; have HB := n2_; clear n0_ n1_ n2_; (try clear hb); (try clear hb2); (try clear hk); (try clear hi)) | ((with_reducible refine gate_dst (N := 5) rfl ?_); refine bx_ 5 #[.int .i64 0, .bool false, .int .u64 0, .int .i64 0] 24 ?_; intro gb828 hg w8 hbox hb; have n0_ := kq_ BK822 hb; have n1_ := kq_ BK823 hb; have n2_ := bq_ HB hb; have n3_ := Aside0.mk (hbox); have n4_ := ge_ hg HB; have n5_ := ge_ hg HB; have n6_ := nb_ hg BK822; have n7_ := nc_ hg BK822; have n8_ := nb_ hg BK823; have n9_ := nc_ hg BK823; clear BK822; clear BK823; clear HB; have BK822 := n0_; have BK823 := n1_; have HB := n2_; have BK828 := n3_; have GW828 := n4_; have GE828 := n5_; have NB822_828 := n6_; have NB828_822 := n7_; have NB823_828 := n8_; have NB828_823 := n9_; clear n0_ n1_ n2_ n3_ n4_ n5_ n6_ n7_ n8_ n9_; clear hb hbox hg; have hnb9 := NB828_822.out; have hnc9 := NB822_828.out; have hnb10 := NB828_823.out; have hnc10 := NB823_828.out; have hcz11_0 := cz_ BK828 0 rfl; have hcz11_1 := cz_ BK828 1 rfl; have hcz11_2 := cz_ BK828 2 rfl; have hcz11_3 := cz_ BK828 3 rfl; have hfz11_0 := fz_ BK828 0; have hfz11_1 := fz_ BK828 1; have hfz11_2 := fz_ BK828 2; have hfz11_3 := fz_ BK828 3; have hnb12 := NB822_823.out; have hnc12 := NB823_822.out; have hcz13_0 := cz_ BK822 0 rfl; have hcz13_1 := cz_ BK822 1 rfl; have hcz13_2 := cz_ BK822 2 rfl; have hcz13_3 := cz_ BK822 3 rfl; have hfz13_0 := fz_ BK822 0; have hfz13_1 := fz_ BK822 1; have hfz13_2 := fz_ BK822 2; have hfz13_3 := fz_ BK822 3) | ((with_reducible refine gate_callee (f := 13) rfl ?_); refine gl_ (some 14) Try.func13 #[.agg #[.int .i64 a0_0, .bool a0_1, .int .u64 a0_2, .int .i64 a0_3], .agg #[.int .i64 t824, .bool t825, .int .u64 t826, .int .i64 (wrap64 (t827 - 1))], .bool a1] ?_; (with_reducible refine (arith_Mul.calls k a0_0 a0_1 a0_2 a0_3 t824 t825 t826 (wrap64 (t827 - 1)) a1 t829 t830 t831 t832 _ A4.out).mono ?_); rintro e w14 ⟨rfl, hb⟩; refine ⟨_, rfl, ?_⟩; have n0_ := Aside0.mk (blk_below (g := gb822) (o := .cells #[.int .i64 a0_0, .bool a0_1, .int .u64 a0_2, .int .i64 a0_3] 24 (0, 0)) (by refine kb_ ?_; refine bf_ NB822_828 ?_; refine bf_ NB822_828 ?_; refine bf_ NB822_828 ?_; refine bf_ NB822_828 ?_; refine bf_ NB822_828 ?_; exact BK822.out) hb); have n1_ := Aside0.mk (blk_below (g := gb823) (o := .cells #[.int .i64 0, .bool false, .int .u64 0, .int .i64 0] 24 (0, 0)) (by refine kb_ ?_; refine bf_ NB823_828 ?_; refine bf_ NB823_828 ?_; refine bf_ NB823_828 ?_; refine bf_ NB823_828 ?_; refine bf_ NB823_828 ?_; exact BK823.out) hb); have n2_ := Aside0.mk (blk_below (g := gb828) (o := .cells #[.int .i64 t824, .bool t825, .int .u64 t826, .int .i64 (wrap64 (t827 - 1))] 24 (0, 0)) (by refine kb_ ?_; refine bp_ #[.int .i64 t824, .bool t825, .int .u64 t826, .int .i64 t827] 3 ?_; refine bp_ #[.int .i64 t824, .bool t825, .int .u64 t826, .int .i64 0] 3 ?_; refine bp_ #[.int .i64 t824, .bool t825, .int .u64 0, .int .i64 0] 2 ?_; refine bp_ #[.int .i64 t824, .bool false, .int .u64 0, .int .i64 0] 1 ?_; refine bp_ #[.int .i64 0, .bool false, .int .u64 0, .int .i64 0] 0 ?_; exact BK828.out) hb); have n3_ := bq_ HB hb; clear BK822; clear BK823; clear BK828; clear HB; have BK822 := n0_; have BK823 := n1_; have BK828 := n2_; have HB := n3_; clear n0_ n1_ n2_ n3_; (try clear hb); (try clear hb2); (try clear hk); (try clear hi); have hcz15_0 := cz_ BK823 0 rfl; have hcz15_1 := cz_ BK823 1 rfl; have hcz15_2 := cz_ BK823 2 rfl; have hcz15_3 := cz_ BK823 3 rfl; have hfz15_0 := fz_ BK823 0; have hfz15_1 := fz_ BK823 1; have hfz15_2 := fz_ BK823 2; have hfz15_3 := fz_ BK823 3))
 refine bodyPost_ret (results_cell_row rfl _ _ gb823 24 #[.int .i64 t829, .bool t830, .int .u64 t831, .int .i64 t832] (0, 0) _ rfl (by refine kb_ ?_; refine bp_ #[.int .i64 t829, .bool t830, .int .u64 t831, .int .i64 0] 3 ?_; refine bp_ #[.int .i64 t829, .bool t830, .int .u64 0, .int .i64 0] 2 ?_; refine bp_ #[.int .i64 t829, .bool false, .int .u64 0, .int .i64 0] 1 ?_; refine bp_ #[.int .i64 0, .bool false, .int .u64 0, .int .i64 0] 0 ?_; exact BK823.out) Try.underlying24 rfl (by kernel_rfl)) rfl ?_
 exact ⟨by first | rfl | (simp [errW_none, errW_some] <;> rfl) | (simp [*, errW_none, errW_some] <;> rfl), bw_ HB.out⟩

/-! ### arith_Twice: function 22 -/
set_option maxHeartbeats 8000000 in
set_option maxRecDepth 100000 in
theorem arith_Twice.calls (k : Nat) (a0_0 : Int) (a0_1 : Bool) (a0_2 : Int) (a0_3 : Int) (a1 : Bool) (r1 : Int) (r2 : Bool) (r3 : Int) (r4 : Int) (w : World) (h : arith_Twice.f k a0_0 a0_1 a0_2 a0_3 a1 = some (r1, r2, r3, r4)) :
  Calls Try.prog 22 #[.agg #[.int .i64 a0_0, .bool a0_1, .int .u64 a0_2, .int .i64 a0_3], .bool a1] w fun e w' => e = .returned (.agg #[.int .i64 r1, .bool r2, .int .u64 r3, .int .i64 r4]) ∧ Below w.heap.size w w' := by
 have hu24 := Try.underlying24
 have HB := Aside0.mk (Below.refl w.heap.size w)
 have H : ((num_Of.f k 2).bind fun bt841 => ((arith_Mul.f k a0_0 a0_1 a0_2 a0_3 bt841.1 bt841.2.1 bt841.2.2.1 bt841.2.2.2 a1).bind fun bt845 => (some (bt845.1, bt845.2.1, bt845.2.2.1, bt845.2.2.2)))) = some (r1, r2, r3, r4) := h
 clear h
 replace H := Option.bind_eq_some_iff.mp H
 obtain ⟨⟨t841, t842, t843, t844⟩, A30, H⟩ := H
 (try dsimp only at H)
 have A3 := Aside0.mk A30
 clear A30
 replace H := Option.bind_eq_some_iff.mp H
 obtain ⟨⟨t845, t846, t847, t848⟩, A40, H⟩ := H
 (try dsimp only at H)
 have A4 := Aside0.mk A40
 clear A40
 simp only [Option.some.injEq, Prod.mk.injEq] at H
 obtain ⟨rfl, rfl, rfl, rfl⟩ := H
 go_enter Try.func22, Try.ntmps22
 try go_wp2_with (first | ((with_reducible refine gate_dst (N := 2) rfl ?_); refine bx_ 2 #[.int .i64 a0_0, .bool a0_1, .int .u64 a0_2, .int .i64 a0_3] 24 ?_; intro gb839 hg w5 hbox hb; have n0_ := bq_ HB hb; have n1_ := Aside0.mk (hbox); have n2_ := ge_ hg HB; have n3_ := ge_ hg HB; clear HB; have HB := n0_; have BK839 := n1_; have GW839 := n2_; have GE839 := n3_; clear n0_ n1_ n2_ n3_; clear hb hbox hg) | ((with_reducible refine gate_dst (N := 4) rfl ?_); refine bx_ 4 #[.int .i64 0, .bool false, .int .u64 0, .int .i64 0] 24 ?_; intro gb840 hg w6 hbox hb; have n0_ := kq_ BK839 hb; have n1_ := bq_ HB hb; have n2_ := Aside0.mk (hbox); have n3_ := ge_ hg HB; have n4_ := ge_ hg HB; have n5_ := nb_ hg BK839; have n6_ := nc_ hg BK839; clear BK839; clear HB; have BK839 := n0_; have HB := n1_; have BK840 := n2_; have GW840 := n3_; have GE840 := n4_; have NB839_840 := n5_; have NB840_839 := n6_; clear n0_ n1_ n2_ n3_ n4_ n5_ n6_; clear hb hbox hg))
 have n0_ := Aside0.mk (blk_drew BK839.out)
 have n1_ := Aside0.mk (blk_drew BK840.out)
 have n2_ := Aside0.mk (below_drew1 HB.out)
 clear BK839
 clear BK840
 clear HB
 have BK839 := n0_
 have BK840 := n1_
 have HB := n2_
 clear n0_ n1_ n2_
 refine start_ (n := 5) (S := fun w' => w'.cell? ⟨gb839, 0, none⟩ = some (.int .i64 a0_0) ∧ w'.cell? ⟨gb839, 1, none⟩ = some (.bool a0_1) ∧ w'.cell? ⟨gb839, 2, none⟩ = some (.int .u64 a0_2) ∧ w'.cell? ⟨gb839, 3, none⟩ = some (.int .i64 a0_3)) (ds := []) #[false, false, false, false, false] (by kernel_rfl) rfl rfl ⟨(blk_cell BK839.out 0).trans rfl, (blk_cell BK839.out 1).trans rfl, (blk_cell BK839.out 2).trans rfl, (blk_cell BK839.out 3).trans rfl⟩ (fun hHeld => ?_)
 generalize w6.drew = w7 at BK839 BK840 HB hHeld ⊢
 refine pure_ (i := 2) (N := some 7) (v := ?_) (a' := ?_) #[false, false, true, false, false] rfl rfl (by kernel_rfl) (fun _ _ _ h => h) (Or.inl ⟨by rfl, ?_⟩) ?_ ?_
 rotate_left
 ·intro w'
  go_simp
  with_reducible rfl
 rotate_left
 ·simp only [Act.put, List.setIfInBounds_toArray, List.set_cons_zero, List.set_cons_succ, i64_w, i32_w]
  rfl
 refine take_ (i := 0) (N := some 5) (v := ?_) (a' := ?_) #[true, false, true, false, false] rfl rfl (by kernel_rfl) (fun _ _ _ h => h) (Or.inl ⟨by rfl, ?_⟩) hHeld ?_ ?_
 rotate_left
 ·rintro w' ⟨s0, s1, s2, s3⟩
  go_simp
  with_reducible rfl
 rotate_left
 ·simp only [Act.put, List.setIfInBounds_toArray, List.set_cons_zero, List.set_cons_succ, i64_w, i32_w]
  rfl
 refine one_ (i := 1) (N := some 6) #[true, true, true, false, false] rfl rfl (by kernel_rfl) (by decide) (fun K hK => ?_)
 refine gs_ Try.func25 #[.int .i64 2] ?_
 with_reducible refine (num_Of.calls k 2 t841 t842 t843 t844 _ A3.out).mono ?_
 rintro e w8 ⟨rfl, hb⟩
 refine ⟨_, rfl, ?_⟩
 have n0_ := kq_ BK839 hb
 have n1_ := kq_ BK840 hb
 have n2_ := bq_ HB hb
 clear BK839
 clear BK840
 clear HB
 have BK839 := n0_
 have BK840 := n1_
 have HB := n2_
 clear n0_ n1_ n2_
 (try clear hb)
 (try clear hb2)
 (try clear hk)
 (try clear hi)
 refine hK.out _ _ ⟨(blk_cell BK839.out 0).trans rfl, (blk_cell BK839.out 1).trans rfl, (blk_cell BK839.out 2).trans rfl, (blk_cell BK839.out 3).trans rfl⟩ (fun hHeld => ?_)
 clear hK K
 refine norm_ (a' := ?_) ?_ ?_
 rotate_left
 ·show Act.put _ (some 6) _ = _
  simp only [Act.put, List.setIfInBounds_toArray, List.set_cons_zero, List.set_cons_succ, i64_w, i32_w]
  rfl
 refine one_ (i := 3) (N := some 8) #[true, true, true, true, false] rfl rfl (by kernel_rfl) (by decide) (fun K hK => ?_)
 refine gs_ Try.func13 #[.agg #[.int .i64 a0_0, .bool a0_1, .int .u64 a0_2, .int .i64 a0_3], .agg #[.int .i64 t841, .bool t842, .int .u64 t843, .int .i64 t844], .bool a1] ?_
 with_reducible refine (arith_Mul.calls k a0_0 a0_1 a0_2 a0_3 t841 t842 t843 t844 a1 t845 t846 t847 t848 _ A4.out).mono ?_
 rintro e w9 ⟨rfl, hb⟩
 refine ⟨_, rfl, ?_⟩
 have n0_ := kq_ BK839 hb
 have n1_ := kq_ BK840 hb
 have n2_ := bq_ HB hb
 clear BK839
 clear BK840
 clear HB
 have BK839 := n0_
 have BK840 := n1_
 have HB := n2_
 clear n0_ n1_ n2_
 (try clear hb)
 (try clear hb2)
 (try clear hk)
 (try clear hi)
 refine hK.out _ _ ⟨(blk_cell BK839.out 0).trans rfl, (blk_cell BK839.out 1).trans rfl, (blk_cell BK839.out 2).trans rfl, (blk_cell BK839.out 3).trans rfl⟩ (fun hHeld => ?_)
 clear hK K
 refine norm_ (a' := ?_) ?_ ?_
 rotate_left
 ·show Act.put _ (some 8) _ = _
  simp only [Act.put, List.setIfInBounds_toArray, List.set_cons_zero, List.set_cons_succ, i64_w, i32_w]
  rfl
 refine one_ (i := 4) (N := none) #[true, true, true, true, true] rfl rfl (by kernel_rfl) (by decide) (fun K hK => ?_)
 have hs10 : w9.cell? ⟨gb840, 0, none⟩ = some (.int .i64 0) := (blk_cell BK840.out 0).trans rfl
 have hfs10 := fz_ BK840 0
 have hns10_0 := NB839_840.out
 have hms10_0 := NB840_839.out
 have hs11 : w9.cell? ⟨gb840, 1, none⟩ = some (.bool false) := (blk_cell BK840.out 1).trans rfl
 have hfs11 := fz_ BK840 1
 have hns11_0 := NB839_840.out
 have hms11_0 := NB840_839.out
 have hs12 : w9.cell? ⟨gb840, 2, none⟩ = some (.int .u64 0) := (blk_cell BK840.out 2).trans rfl
 have hfs12 := fz_ BK840 2
 have hns12_0 := NB839_840.out
 have hms12_0 := NB840_839.out
 have hs13 : w9.cell? ⟨gb840, 3, none⟩ = some (.int .i64 0) := (blk_cell BK840.out 3).trans rfl
 have hfs13 := fz_ BK840 3
 have hns13_0 := NB839_840.out
 have hms13_0 := NB840_839.out
 refine skip_ (w1 := ?_) (by rfl) rfl ?_ ?_
 rotate_left
 ·go_simp
  rfl
 refine hK.out _ _ ⟨((cell_far (p := ⟨gb840, _, none⟩) NB839_840.out _).trans (((cell_far (p := ⟨gb840, _, none⟩) NB839_840.out _).trans (((cell_far (p := ⟨gb840, _, none⟩) NB839_840.out _).trans (((cell_far (p := ⟨gb840, _, none⟩) NB839_840.out _).trans (hHeld.1)))))))), ((cell_far (p := ⟨gb840, _, none⟩) NB839_840.out _).trans (((cell_far (p := ⟨gb840, _, none⟩) NB839_840.out _).trans (((cell_far (p := ⟨gb840, _, none⟩) NB839_840.out _).trans (((cell_far (p := ⟨gb840, _, none⟩) NB839_840.out _).trans (hHeld.2.1)))))))), ((cell_far (p := ⟨gb840, _, none⟩) NB839_840.out _).trans (((cell_far (p := ⟨gb840, _, none⟩) NB839_840.out _).trans (((cell_far (p := ⟨gb840, _, none⟩) NB839_840.out _).trans (((cell_far (p := ⟨gb840, _, none⟩) NB839_840.out _).trans (hHeld.2.2.1)))))))), ((cell_far (p := ⟨gb840, _, none⟩) NB839_840.out _).trans (((cell_far (p := ⟨gb840, _, none⟩) NB839_840.out _).trans (((cell_far (p := ⟨gb840, _, none⟩) NB839_840.out _).trans (((cell_far (p := ⟨gb840, _, none⟩) NB839_840.out _).trans (hHeld.2.2.2))))))))⟩ (fun hHeld => ?_)
 clear hK K
 refine done_ (by kernel_rfl) ?_
 try go_wp2
 refine bodyPost_ret (results_cell_row rfl _ _ gb840 24 #[.int .i64 t845, .bool t846, .int .u64 t847, .int .i64 t848] (0, 0) _ rfl (by refine kb_ ?_; refine bp_ #[.int .i64 t845, .bool t846, .int .u64 t847, .int .i64 0] 3 ?_; refine bp_ #[.int .i64 t845, .bool t846, .int .u64 0, .int .i64 0] 2 ?_; refine bp_ #[.int .i64 t845, .bool false, .int .u64 0, .int .i64 0] 1 ?_; refine bp_ #[.int .i64 0, .bool false, .int .u64 0, .int .i64 0] 0 ?_; exact BK840.out) Try.underlying24 rfl (by kernel_rfl)) rfl ?_
 exact ⟨by first | rfl | (simp [errW_none, errW_some] <;> rfl) | (simp [*, errW_none, errW_some] <;> rfl), bw_ HB.out⟩

end Go.Proofs.Ythlhogcnfaiphaa.PA
