-- Laid by this work's own program; Lean checks it.
import Derived.Test.YthlhogcnfaiphaaPAx0
import Derived.Test.YthlhogcnfaiphaaPAx2
import Derived.Test.YthlhogcnfaiphaaPAx6
import Derived.Test.YthlhogcnfaiphaaPAx18
namespace Go.Proofs.Ythlhogcnfaiphaa.PA
open Go.RowKit Go.Proofs.YthlhogcnfaiphaaW.PrintWords Go.Proofs.YthlhogcnfaiphaaW.PrintLast Go.Proofs.YthlhogcnfaiphaaW.PrintMore
attribute [local go_sem] max2_int min2_int max_two min_two max_three min_three max_four min_four   -- for this text's walks alone
set_option linter.unusedVariables false
set_option linter.unusedSimpArgs false

attribute [local go_sem ↓ high] isSome_set_
/-! ### num_Cmp: function 26 -/
set_option maxHeartbeats 8000000 in
set_option maxRecDepth 100000 in
theorem num_Cmp.calls (a0_0 : Int) (a0_1 : Bool) (a0_2 : Int) (a0_3 : Int) (a1_0 : Int) (a1_1 : Bool) (a1_2 : Int) (a1_3 : Int) (r : Int) (w : World) (h : num_Cmp.f a0_0 a0_1 a0_2 a0_3 a1_0 a1_1 a1_2 a1_3 = some r) :
  Calls Try.prog 26 #[.agg #[.int .i64 a0_0, .bool a0_1, .int .u64 a0_2, .int .i64 a0_3], .agg #[.int .i64 a1_0, .bool a1_1, .int .u64 a1_2, .int .i64 a1_3]] w fun e w' => e = .returned (.int .i64 r) ∧ Below w.heap.size w w' := by
 have hu24 := Try.underlying24
 have HB := Aside0.mk (Below.refl w.heap.size w)
 have H : ((num_fair.f a0_0 a0_1 a0_2 a0_3).bind fun bt987 => ((num_fair.f a1_0 a1_1 a1_2 a1_3).bind fun bt991 => ((num_Sign.f bt987.1 bt987.2.1 bt987.2.2.1 bt987.2.2.2).bind fun t995 => ((num_Sign.f bt991.1 bt991.2.1 bt991.2.2.1 bt991.2.2.2).bind fun t996 => (if t995 < t996 then (some (-1)) else (if t995 > t996 then (some 1) else ((num_farther.f bt987.1 bt987.2.1 bt987.2.2.1 bt987.2.2.2 bt991.1 bt991.2.1 bt991.2.2.1 bt991.2.2.2).bind fun t997 => (if t997 = true then (some t995) else ((num_farther.f bt991.1 bt991.2.1 bt991.2.2.1 bt991.2.2.2 bt987.1 bt987.2.1 bt987.2.2.1 bt987.2.2.2).bind fun t998 => (if t998 = true then (some (wrap64 (-t995))) else (some 0))))))))))) = some r := h
 clear h
 replace H := Option.bind_eq_some_iff.mp H
 obtain ⟨⟨t987, t988, t989, t990⟩, A30, H⟩ := H
 (try dsimp only at H)
 have A3 := Aside0.mk A30
 clear A30
 replace H := Option.bind_eq_some_iff.mp H
 obtain ⟨⟨t991, t992, t993, t994⟩, A40, H⟩ := H
 (try dsimp only at H)
 have A4 := Aside0.mk A40
 clear A40
 replace H := Option.bind_eq_some_iff.mp H
 obtain ⟨t995, A50, H⟩ := H
 (try dsimp only at H)
 have A5 := Aside0.mk A50
 clear A50
 replace H := Option.bind_eq_some_iff.mp H
 obtain ⟨t996, A60, H⟩ := H
 (try dsimp only at H)
 have A6 := Aside0.mk A60
 clear A60
 by_cases c7 : t995 < t996
 ·rw [if_pos c7] at H
  have c7b0 : decide (t995 < t996) = true := decide_eq_true c7
  clear c7
  obtain rfl := Option.some.inj H
  go_enter Try.func26, Try.ntmps26
  try go_wp2_with (first | ((with_reducible refine gate_dst (N := 2) rfl ?_); refine bx_ 2 #[.int .i64 a0_0, .bool a0_1, .int .u64 a0_2, .int .i64 a0_3] 24 ?_; intro gb985 hg w8 hbox hb; have n0_ := bq_ HB hb; have n1_ := Aside0.mk (hbox); have n2_ := ge_ hg HB; have n3_ := ge_ hg HB; clear HB; have HB := n0_; have BK985 := n1_; have GW985 := n2_; have GE985 := n3_; clear n0_ n1_ n2_ n3_; clear hb hbox hg) | ((with_reducible refine gate_dst (N := 3) rfl ?_); refine bx_ 3 #[.int .i64 a1_0, .bool a1_1, .int .u64 a1_2, .int .i64 a1_3] 24 ?_; intro gb986 hg w9 hbox hb; have n0_ := kq_ BK985 hb; have n1_ := bq_ HB hb; have n2_ := Aside0.mk (hbox); have n3_ := ge_ hg HB; have n4_ := ge_ hg HB; have n5_ := nb_ hg BK985; have n6_ := nc_ hg BK985; clear BK985; clear HB; have BK985 := n0_; have HB := n1_; have BK986 := n2_; have GW986 := n3_; have GE986 := n4_; have NB985_986 := n5_; have NB986_985 := n6_; clear n0_ n1_ n2_ n3_ n4_ n5_ n6_; clear hb hbox hg))
  have n0_ := Aside0.mk (blk_drew BK985.out)
  have n1_ := Aside0.mk (blk_drew BK986.out)
  have n2_ := Aside0.mk (below_drew1 HB.out)
  clear BK985
  clear BK986
  clear HB
  have BK985 := n0_
  have BK986 := n1_
  have HB := n2_
  clear n0_ n1_ n2_
  refine start_ (n := 6) (S := fun w' => w'.cell? ⟨gb985, 0, none⟩ = some (.int .i64 a0_0) ∧ w'.cell? ⟨gb985, 1, none⟩ = some (.bool a0_1) ∧ w'.cell? ⟨gb985, 2, none⟩ = some (.int .u64 a0_2) ∧ w'.cell? ⟨gb985, 3, none⟩ = some (.int .i64 a0_3) ∧ w'.cell? ⟨gb986, 0, none⟩ = some (.int .i64 a1_0) ∧ w'.cell? ⟨gb986, 1, none⟩ = some (.bool a1_1) ∧ w'.cell? ⟨gb986, 2, none⟩ = some (.int .u64 a1_2) ∧ w'.cell? ⟨gb986, 3, none⟩ = some (.int .i64 a1_3)) (ds := [4, 5]) #[false, false, false, false, false, false] (by kernel_rfl) rfl rfl ⟨(blk_cell BK985.out 0).trans rfl, (blk_cell BK985.out 1).trans rfl, (blk_cell BK985.out 2).trans rfl, (blk_cell BK985.out 3).trans rfl, (blk_cell BK986.out 0).trans rfl, (blk_cell BK986.out 1).trans rfl, (blk_cell BK986.out 2).trans rfl, (blk_cell BK986.out 3).trans rfl⟩ (fun hHeld => ?_)
  generalize w9.drew = w10 at BK985 BK986 HB hHeld ⊢
  refine take_ (i := 0) (N := some 7) (v := ?_) (a' := ?_) #[true, false, false, false, false, false] rfl rfl (by kernel_rfl) (fun _ _ _ h => h) (Or.inl ⟨by rfl, ?_⟩) hHeld ?_ ?_
  rotate_left
  ·rintro w' ⟨s0, s1, s2, s3, s4, s5, s6, s7⟩
   go_simp
   with_reducible rfl
  rotate_left
  ·exact pt_
  refine take_ (i := 2) (N := some 9) (v := ?_) (a' := ?_) #[true, false, true, false, false, false] rfl rfl (by kernel_rfl) (fun _ _ _ h => h) (Or.inl ⟨by rfl, ?_⟩) hHeld ?_ ?_
  rotate_left
  ·rintro w' ⟨s0, s1, s2, s3, s4, s5, s6, s7⟩
   go_simp
   with_reducible rfl
  rotate_left
  ·exact pt_
  refine one_ (i := 1) (N := some 8) #[true, true, true, false, false, false] rfl rfl (by kernel_rfl) (by decide) (fun K hK => ?_)
  refine gs_ Try.func34 #[.agg #[.int .i64 a0_0, .bool a0_1, .int .u64 a0_2, .int .i64 a0_3]] ?_
  with_reducible refine (num_fair.calls a0_0 a0_1 a0_2 a0_3 t987 t988 t989 t990 _ A3.out).mono ?_
  rintro e w11 ⟨rfl, hb⟩
  refine ⟨_, rfl, ?_⟩
  have n0_ := kq_ BK985 hb
  have n1_ := kq_ BK986 hb
  have n2_ := bq_ HB hb
  clear BK985
  clear BK986
  clear HB
  have BK985 := n0_
  have BK986 := n1_
  have HB := n2_
  clear n0_ n1_ n2_
  (try clear hb)
  (try clear hb2)
  (try clear hk)
  (try clear hi)
  refine hK.out _ _ ⟨(blk_cell BK985.out 0).trans rfl, (blk_cell BK985.out 1).trans rfl, (blk_cell BK985.out 2).trans rfl, (blk_cell BK985.out 3).trans rfl, (blk_cell BK986.out 0).trans rfl, (blk_cell BK986.out 1).trans rfl, (blk_cell BK986.out 2).trans rfl, (blk_cell BK986.out 3).trans rfl⟩ (fun hHeld => ?_)
  clear hK K
  refine norm_ (a' := ?_) ?_ ?_
  rotate_left
  ·show Act.put _ (some 8) _ = _
   exact pt_
  refine one_ (i := 3) (N := some 10) #[true, true, true, true, false, false] rfl rfl (by kernel_rfl) (by decide) (fun K hK => ?_)
  refine gs_ Try.func34 #[.agg #[.int .i64 a1_0, .bool a1_1, .int .u64 a1_2, .int .i64 a1_3]] ?_
  with_reducible refine (num_fair.calls a1_0 a1_1 a1_2 a1_3 t991 t992 t993 t994 _ A4.out).mono ?_
  rintro e w12 ⟨rfl, hb⟩
  refine ⟨_, rfl, ?_⟩
  have n0_ := kq_ BK985 hb
  have n1_ := kq_ BK986 hb
  have n2_ := bq_ HB hb
  clear BK985
  clear BK986
  clear HB
  have BK985 := n0_
  have BK986 := n1_
  have HB := n2_
  clear n0_ n1_ n2_
  (try clear hb)
  (try clear hb2)
  (try clear hk)
  (try clear hi)
  refine hK.out _ _ ⟨(blk_cell BK985.out 0).trans rfl, (blk_cell BK985.out 1).trans rfl, (blk_cell BK985.out 2).trans rfl, (blk_cell BK985.out 3).trans rfl, (blk_cell BK986.out 0).trans rfl, (blk_cell BK986.out 1).trans rfl, (blk_cell BK986.out 2).trans rfl, (blk_cell BK986.out 3).trans rfl⟩ (fun hHeld => ?_)
  clear hK K
  refine norm_ (a' := ?_) ?_ ?_
  rotate_left
  ·show Act.put _ (some 10) _ = _
   exact pt_
  refine last_ (i := 4) (N := none) #[true, true, true, true, true, false] rfl rfl (by kernel_rfl) (by decide) (fun K hK => ?_)
  have hs13 : w12.cell? ⟨gb985, 0, none⟩ = some (.int .i64 a0_0) := (blk_cell BK985.out 0).trans rfl
  have hfs13 := fz_ BK985 0
  have hns13_1 := NB986_985.out
  have hms13_1 := NB985_986.out
  have hs14 : w12.cell? ⟨gb985, 1, none⟩ = some (.bool a0_1) := (blk_cell BK985.out 1).trans rfl
  have hfs14 := fz_ BK985 1
  have hns14_1 := NB986_985.out
  have hms14_1 := NB985_986.out
  have hs15 : w12.cell? ⟨gb985, 2, none⟩ = some (.int .u64 a0_2) := (blk_cell BK985.out 2).trans rfl
  have hfs15 := fz_ BK985 2
  have hns15_1 := NB986_985.out
  have hms15_1 := NB985_986.out
  have hs16 : w12.cell? ⟨gb985, 3, none⟩ = some (.int .i64 a0_3) := (blk_cell BK985.out 3).trans rfl
  have hfs16 := fz_ BK985 3
  have hns16_1 := NB986_985.out
  have hms16_1 := NB985_986.out
  refine skip_ (w1 := ?_) (by rfl) rfl ?_ ?_
  rotate_left
  ·go_simp
   rfl
  refine hK.out _ _ ?_
  clear hK K
  refine last_ (i := 5) (N := none) #[true, true, true, true, true, true] rfl rfl (by kernel_rfl) (by decide) (fun K hK => ?_)
  have hs17 : w12.cell? ⟨gb986, 0, none⟩ = some (.int .i64 a1_0) := (blk_cell BK986.out 0).trans rfl
  have hfs17 := fz_ BK986 0
  have hns17_0 := NB985_986.out
  have hms17_0 := NB986_985.out
  have hs18 : w12.cell? ⟨gb986, 1, none⟩ = some (.bool a1_1) := (blk_cell BK986.out 1).trans rfl
  have hfs18 := fz_ BK986 1
  have hns18_0 := NB985_986.out
  have hms18_0 := NB986_985.out
  have hs19 : w12.cell? ⟨gb986, 2, none⟩ = some (.int .u64 a1_2) := (blk_cell BK986.out 2).trans rfl
  have hfs19 := fz_ BK986 2
  have hns19_0 := NB985_986.out
  have hms19_0 := NB986_985.out
  have hs20 : w12.cell? ⟨gb986, 3, none⟩ = some (.int .i64 a1_3) := (blk_cell BK986.out 3).trans rfl
  have hfs20 := fz_ BK986 3
  have hns20_0 := NB985_986.out
  have hms20_0 := NB986_985.out
  refine skip_ (w1 := ?_) (by rfl) rfl ?_ ?_
  rotate_left
  ·go_simp
   rfl
  refine hK.out _ _ ?_
  clear hK K
  refine done_ (by kernel_rfl) ?_
  try go_wp2
  have n0_ : Aside0 (((((((((w12.setCell ⟨gb985, 0, none⟩ (.int .i64 t987)).setCell ⟨gb985, 1, none⟩ (.bool t988)).setCell ⟨gb985, 2, none⟩ (.int .u64 t989)).setCell ⟨gb985, 3, none⟩ (.int .i64 t990)).setCell ⟨gb986, 0, none⟩ (.int .i64 t991)).setCell ⟨gb986, 1, none⟩ (.bool t992)).setCell ⟨gb986, 2, none⟩ (.int .u64 t993)).setCell ⟨gb986, 3, none⟩ (.int .i64 t994)).heap[gb985]? = some (.cells #[.int .i64 t987, .bool t988, .int .u64 t989, .int .i64 t990] 24 (0, 0))) := ⟨by refine kb_ ?_; refine bf_ NB985_986 ?_; refine bf_ NB985_986 ?_; refine bf_ NB985_986 ?_; refine bf_ NB985_986 ?_; refine bp_ #[.int .i64 t987, .bool t988, .int .u64 t989, .int .i64 a0_3] 3 ?_; refine bp_ #[.int .i64 t987, .bool t988, .int .u64 a0_2, .int .i64 a0_3] 2 ?_; refine bp_ #[.int .i64 t987, .bool a0_1, .int .u64 a0_2, .int .i64 a0_3] 1 ?_; refine bp_ #[.int .i64 a0_0, .bool a0_1, .int .u64 a0_2, .int .i64 a0_3] 0 ?_; exact BK985.out⟩
  have n1_ : Aside0 (((((((((w12.setCell ⟨gb985, 0, none⟩ (.int .i64 t987)).setCell ⟨gb985, 1, none⟩ (.bool t988)).setCell ⟨gb985, 2, none⟩ (.int .u64 t989)).setCell ⟨gb985, 3, none⟩ (.int .i64 t990)).setCell ⟨gb986, 0, none⟩ (.int .i64 t991)).setCell ⟨gb986, 1, none⟩ (.bool t992)).setCell ⟨gb986, 2, none⟩ (.int .u64 t993)).setCell ⟨gb986, 3, none⟩ (.int .i64 t994)).heap[gb986]? = some (.cells #[.int .i64 t991, .bool t992, .int .u64 t993, .int .i64 t994] 24 (0, 0))) := ⟨by refine kb_ ?_; refine bp_ #[.int .i64 t991, .bool t992, .int .u64 t993, .int .i64 a1_3] 3 ?_; refine bp_ #[.int .i64 t991, .bool t992, .int .u64 a1_2, .int .i64 a1_3] 2 ?_; refine bp_ #[.int .i64 t991, .bool a1_1, .int .u64 a1_2, .int .i64 a1_3] 1 ?_; refine bp_ #[.int .i64 a1_0, .bool a1_1, .int .u64 a1_2, .int .i64 a1_3] 0 ?_; refine bf_ NB986_985 ?_; refine bf_ NB986_985 ?_; refine bf_ NB986_985 ?_; refine bf_ NB986_985 ?_; exact BK986.out⟩
  have n2_ : Aside0 (Below w.heap.size w ((((((((w12.setCell ⟨gb985, 0, none⟩ (.int .i64 t987)).setCell ⟨gb985, 1, none⟩ (.bool t988)).setCell ⟨gb985, 2, none⟩ (.int .u64 t989)).setCell ⟨gb985, 3, none⟩ (.int .i64 t990)).setCell ⟨gb986, 0, none⟩ (.int .i64 t991)).setCell ⟨gb986, 1, none⟩ (.bool t992)).setCell ⟨gb986, 2, none⟩ (.int .u64 t993)).setCell ⟨gb986, 3, none⟩ (.int .i64 t994))) := ⟨bw_ HB.out⟩
  (try clear BK985)
  (try clear BK986)
  (try clear HB)
  generalize ((((((((w12.setCell ⟨gb985, 0, none⟩ (.int .i64 t987)).setCell ⟨gb985, 1, none⟩ (.bool t988)).setCell ⟨gb985, 2, none⟩ (.int .u64 t989)).setCell ⟨gb985, 3, none⟩ (.int .i64 t990)).setCell ⟨gb986, 0, none⟩ (.int .i64 t991)).setCell ⟨gb986, 1, none⟩ (.bool t992)).setCell ⟨gb986, 2, none⟩ (.int .u64 t993)).setCell ⟨gb986, 3, none⟩ (.int .i64 t994)) = w21 at n0_ n1_ n2_ ⊢
  have BK985 := n0_
  have BK986 := n1_
  have HB := n2_
  clear n0_ n1_ n2_
  have n0_ := Aside0.mk (blk_drew BK985.out)
  have n1_ := Aside0.mk (blk_drew BK986.out)
  have n2_ := Aside0.mk (below_drew1 HB.out)
  clear BK985
  clear BK986
  clear HB
  have BK985 := n0_
  have BK986 := n1_
  have HB := n2_
  clear n0_ n1_ n2_
  refine start_ (n := 6) (S := fun w' => w'.cell? ⟨gb985, 0, none⟩ = some (.int .i64 t987) ∧ w'.cell? ⟨gb985, 1, none⟩ = some (.bool t988) ∧ w'.cell? ⟨gb985, 2, none⟩ = some (.int .u64 t989) ∧ w'.cell? ⟨gb985, 3, none⟩ = some (.int .i64 t990) ∧ w'.cell? ⟨gb986, 0, none⟩ = some (.int .i64 t991) ∧ w'.cell? ⟨gb986, 1, none⟩ = some (.bool t992) ∧ w'.cell? ⟨gb986, 2, none⟩ = some (.int .u64 t993) ∧ w'.cell? ⟨gb986, 3, none⟩ = some (.int .i64 t994)) (ds := []) #[false, false, false, false, false, false] (by kernel_rfl) rfl rfl ⟨(blk_cell BK985.out 0).trans rfl, (blk_cell BK985.out 1).trans rfl, (blk_cell BK985.out 2).trans rfl, (blk_cell BK985.out 3).trans rfl, (blk_cell BK986.out 0).trans rfl, (blk_cell BK986.out 1).trans rfl, (blk_cell BK986.out 2).trans rfl, (blk_cell BK986.out 3).trans rfl⟩ (fun hHeld => ?_)
  generalize w21.drew = w22 at BK985 BK986 HB hHeld ⊢
  refine take_ (i := 0) (N := some 11) (v := ?_) (a' := ?_) #[true, false, false, false, false, false] rfl rfl (by kernel_rfl) (fun _ _ _ h => h) (Or.inl ⟨by rfl, ?_⟩) hHeld ?_ ?_
  rotate_left
  ·rintro w' ⟨s0, s1, s2, s3, s4, s5, s6, s7⟩
   go_simp
   with_reducible rfl
  rotate_left
  ·exact pt_
  refine take_ (i := 2) (N := some 13) (v := ?_) (a' := ?_) #[true, false, true, false, false, false] rfl rfl (by kernel_rfl) (fun _ _ _ h => h) (Or.inl ⟨by rfl, ?_⟩) hHeld ?_ ?_
  rotate_left
  ·rintro w' ⟨s0, s1, s2, s3, s4, s5, s6, s7⟩
   go_simp
   with_reducible rfl
  rotate_left
  ·exact pt_
  refine one_ (i := 1) (N := some 12) #[true, true, true, false, false, false] rfl rfl (by kernel_rfl) (by decide) (fun K hK => ?_)
  refine gs_ Try.func27 #[.agg #[.int .i64 t987, .bool t988, .int .u64 t989, .int .i64 t990]] ?_
  with_reducible refine (num_Sign.calls t987 t988 t989 t990 t995 _ A5.out).mono ?_
  rintro e w23 ⟨rfl, hb⟩
  refine ⟨_, rfl, ?_⟩
  have n0_ := kq_ BK985 hb
  have n1_ := kq_ BK986 hb
  have n2_ := bq_ HB hb
  clear BK985
  clear BK986
  clear HB
  have BK985 := n0_
  have BK986 := n1_
  have HB := n2_
  clear n0_ n1_ n2_
  (try clear hb)
  (try clear hb2)
  (try clear hk)
  (try clear hi)
  refine hK.out _ _ ⟨(blk_cell BK985.out 0).trans rfl, (blk_cell BK985.out 1).trans rfl, (blk_cell BK985.out 2).trans rfl, (blk_cell BK985.out 3).trans rfl, (blk_cell BK986.out 0).trans rfl, (blk_cell BK986.out 1).trans rfl, (blk_cell BK986.out 2).trans rfl, (blk_cell BK986.out 3).trans rfl⟩ (fun hHeld => ?_)
  clear hK K
  refine norm_ (a' := ?_) ?_ ?_
  rotate_left
  ·show Act.put _ (some 12) _ = _
   exact pt_
  refine one_ (i := 3) (N := some 14) #[true, true, true, true, false, false] rfl rfl (by kernel_rfl) (by decide) (fun K hK => ?_)
  refine gs_ Try.func27 #[.agg #[.int .i64 t991, .bool t992, .int .u64 t993, .int .i64 t994]] ?_
  with_reducible refine (num_Sign.calls t991 t992 t993 t994 t996 _ A6.out).mono ?_
  rintro e w24 ⟨rfl, hb⟩
  refine ⟨_, rfl, ?_⟩
  have n0_ := kq_ BK985 hb
  have n1_ := kq_ BK986 hb
  have n2_ := bq_ HB hb
  clear BK985
  clear BK986
  clear HB
  have BK985 := n0_
  have BK986 := n1_
  have HB := n2_
  clear n0_ n1_ n2_
  (try clear hb)
  (try clear hb2)
  (try clear hk)
  (try clear hi)
  refine hK.out _ _ ⟨(blk_cell BK985.out 0).trans rfl, (blk_cell BK985.out 1).trans rfl, (blk_cell BK985.out 2).trans rfl, (blk_cell BK985.out 3).trans rfl, (blk_cell BK986.out 0).trans rfl, (blk_cell BK986.out 1).trans rfl, (blk_cell BK986.out 2).trans rfl, (blk_cell BK986.out 3).trans rfl⟩ (fun hHeld => ?_)
  clear hK K
  refine norm_ (a' := ?_) ?_ ?_
  rotate_left
  ·show Act.put _ (some 14) _ = _
   exact pt_
  refine pure_ (i := 4) (N := some 5) (v := ?_) (a' := ?_) #[true, true, true, true, true, false] rfl rfl (by kernel_rfl) (fun _ _ _ h => h) (Or.inl ⟨by rfl, ?_⟩) ?_ ?_
  rotate_left
  ·intro w'
   go_simp
   with_reducible rfl
  rotate_left
  ·exact pt_
  refine pure_ (i := 5) (N := some 6) (v := ?_) (a' := ?_) #[true, true, true, true, true, true] rfl rfl (by kernel_rfl) (fun _ _ _ h => h) (Or.inl ⟨by rfl, ?_⟩) ?_ ?_
  rotate_left
  ·intro w'
   go_simp
   with_reducible rfl
  rotate_left
  ·exact pt_
  refine done_ (by kernel_rfl) ?_
  try go_wp2
  go_ret
  exact ⟨rf_, bw_ HB.out⟩
 ·rw [if_neg c7] at H
  have c7b0 : decide (t995 < t996) = false := decide_eq_false c7
  clear c7
  by_cases c25 : t995 > t996
  ·rw [if_pos c25] at H
   have c25b0 : decide (t996 < t995) = true := decide_eq_true c25
   clear c25
   obtain rfl := Option.some.inj H
   go_enter Try.func26, Try.ntmps26
   try go_wp2_with (first | ((with_reducible refine gate_dst (N := 2) rfl ?_); refine bx_ 2 #[.int .i64 a0_0, .bool a0_1, .int .u64 a0_2, .int .i64 a0_3] 24 ?_; intro gb985 hg w26 hbox hb; have n0_ := bq_ HB hb; have n1_ := Aside0.mk (hbox); have n2_ := ge_ hg HB; have n3_ := ge_ hg HB; clear HB; have HB := n0_; have BK985 := n1_; have GW985 := n2_; have GE985 := n3_; clear n0_ n1_ n2_ n3_; clear hb hbox hg) | ((with_reducible refine gate_dst (N := 3) rfl ?_); refine bx_ 3 #[.int .i64 a1_0, .bool a1_1, .int .u64 a1_2, .int .i64 a1_3] 24 ?_; intro gb986 hg w27 hbox hb; have n0_ := kq_ BK985 hb; have n1_ := bq_ HB hb; have n2_ := Aside0.mk (hbox); have n3_ := ge_ hg HB; have n4_ := ge_ hg HB; have n5_ := nb_ hg BK985; have n6_ := nc_ hg BK985; clear BK985; clear HB; have BK985 := n0_; have HB := n1_; have BK986 := n2_; have GW986 := n3_; have GE986 := n4_; have NB985_986 := n5_; have NB986_985 := n6_; clear n0_ n1_ n2_ n3_ n4_ n5_ n6_; clear hb hbox hg))
   have n0_ := Aside0.mk (blk_drew BK985.out)
   have n1_ := Aside0.mk (blk_drew BK986.out)
   have n2_ := Aside0.mk (below_drew1 HB.out)
   clear BK985
   clear BK986
   clear HB
   have BK985 := n0_
   have BK986 := n1_
   have HB := n2_
   clear n0_ n1_ n2_
   refine start_ (n := 6) (S := fun w' => w'.cell? ⟨gb985, 0, none⟩ = some (.int .i64 a0_0) ∧ w'.cell? ⟨gb985, 1, none⟩ = some (.bool a0_1) ∧ w'.cell? ⟨gb985, 2, none⟩ = some (.int .u64 a0_2) ∧ w'.cell? ⟨gb985, 3, none⟩ = some (.int .i64 a0_3) ∧ w'.cell? ⟨gb986, 0, none⟩ = some (.int .i64 a1_0) ∧ w'.cell? ⟨gb986, 1, none⟩ = some (.bool a1_1) ∧ w'.cell? ⟨gb986, 2, none⟩ = some (.int .u64 a1_2) ∧ w'.cell? ⟨gb986, 3, none⟩ = some (.int .i64 a1_3)) (ds := [4, 5]) #[false, false, false, false, false, false] (by kernel_rfl) rfl rfl ⟨(blk_cell BK985.out 0).trans rfl, (blk_cell BK985.out 1).trans rfl, (blk_cell BK985.out 2).trans rfl, (blk_cell BK985.out 3).trans rfl, (blk_cell BK986.out 0).trans rfl, (blk_cell BK986.out 1).trans rfl, (blk_cell BK986.out 2).trans rfl, (blk_cell BK986.out 3).trans rfl⟩ (fun hHeld => ?_)
   generalize w27.drew = w28 at BK985 BK986 HB hHeld ⊢
   refine take_ (i := 0) (N := some 7) (v := ?_) (a' := ?_) #[true, false, false, false, false, false] rfl rfl (by kernel_rfl) (fun _ _ _ h => h) (Or.inl ⟨by rfl, ?_⟩) hHeld ?_ ?_
   rotate_left
   ·rintro w' ⟨s0, s1, s2, s3, s4, s5, s6, s7⟩
    go_simp
    with_reducible rfl
   rotate_left
   ·exact pt_
   refine take_ (i := 2) (N := some 9) (v := ?_) (a' := ?_) #[true, false, true, false, false, false] rfl rfl (by kernel_rfl) (fun _ _ _ h => h) (Or.inl ⟨by rfl, ?_⟩) hHeld ?_ ?_
   rotate_left
   ·rintro w' ⟨s0, s1, s2, s3, s4, s5, s6, s7⟩
    go_simp
    with_reducible rfl
   rotate_left
   ·exact pt_
   refine one_ (i := 1) (N := some 8) #[true, true, true, false, false, false] rfl rfl (by kernel_rfl) (by decide) (fun K hK => ?_)
   refine gs_ Try.func34 #[.agg #[.int .i64 a0_0, .bool a0_1, .int .u64 a0_2, .int .i64 a0_3]] ?_
   with_reducible refine (num_fair.calls a0_0 a0_1 a0_2 a0_3 t987 t988 t989 t990 _ A3.out).mono ?_
   rintro e w29 ⟨rfl, hb⟩
   refine ⟨_, rfl, ?_⟩
   have n0_ := kq_ BK985 hb
   have n1_ := kq_ BK986 hb
   have n2_ := bq_ HB hb
   clear BK985
   clear BK986
   clear HB
   have BK985 := n0_
   have BK986 := n1_
   have HB := n2_
   clear n0_ n1_ n2_
   (try clear hb)
   (try clear hb2)
   (try clear hk)
   (try clear hi)
   refine hK.out _ _ ⟨(blk_cell BK985.out 0).trans rfl, (blk_cell BK985.out 1).trans rfl, (blk_cell BK985.out 2).trans rfl, (blk_cell BK985.out 3).trans rfl, (blk_cell BK986.out 0).trans rfl, (blk_cell BK986.out 1).trans rfl, (blk_cell BK986.out 2).trans rfl, (blk_cell BK986.out 3).trans rfl⟩ (fun hHeld => ?_)
   clear hK K
   refine norm_ (a' := ?_) ?_ ?_
   rotate_left
   ·show Act.put _ (some 8) _ = _
    exact pt_
   refine one_ (i := 3) (N := some 10) #[true, true, true, true, false, false] rfl rfl (by kernel_rfl) (by decide) (fun K hK => ?_)
   refine gs_ Try.func34 #[.agg #[.int .i64 a1_0, .bool a1_1, .int .u64 a1_2, .int .i64 a1_3]] ?_
   with_reducible refine (num_fair.calls a1_0 a1_1 a1_2 a1_3 t991 t992 t993 t994 _ A4.out).mono ?_
   rintro e w30 ⟨rfl, hb⟩
   refine ⟨_, rfl, ?_⟩
   have n0_ := kq_ BK985 hb
   have n1_ := kq_ BK986 hb
   have n2_ := bq_ HB hb
   clear BK985
   clear BK986
   clear HB
   have BK985 := n0_
   have BK986 := n1_
   have HB := n2_
   clear n0_ n1_ n2_
   (try clear hb)
   (try clear hb2)
   (try clear hk)
   (try clear hi)
   refine hK.out _ _ ⟨(blk_cell BK985.out 0).trans rfl, (blk_cell BK985.out 1).trans rfl, (blk_cell BK985.out 2).trans rfl, (blk_cell BK985.out 3).trans rfl, (blk_cell BK986.out 0).trans rfl, (blk_cell BK986.out 1).trans rfl, (blk_cell BK986.out 2).trans rfl, (blk_cell BK986.out 3).trans rfl⟩ (fun hHeld => ?_)
   clear hK K
   refine norm_ (a' := ?_) ?_ ?_
   rotate_left
   ·show Act.put _ (some 10) _ = _
    exact pt_
   refine last_ (i := 4) (N := none) #[true, true, true, true, true, false] rfl rfl (by kernel_rfl) (by decide) (fun K hK => ?_)
   have hs31 : w30.cell? ⟨gb985, 0, none⟩ = some (.int .i64 a0_0) := (blk_cell BK985.out 0).trans rfl
   have hfs31 := fz_ BK985 0
   have hns31_1 := NB986_985.out
   have hms31_1 := NB985_986.out
   have hs32 : w30.cell? ⟨gb985, 1, none⟩ = some (.bool a0_1) := (blk_cell BK985.out 1).trans rfl
   have hfs32 := fz_ BK985 1
   have hns32_1 := NB986_985.out
   have hms32_1 := NB985_986.out
   have hs33 : w30.cell? ⟨gb985, 2, none⟩ = some (.int .u64 a0_2) := (blk_cell BK985.out 2).trans rfl
   have hfs33 := fz_ BK985 2
   have hns33_1 := NB986_985.out
   have hms33_1 := NB985_986.out
   have hs34 : w30.cell? ⟨gb985, 3, none⟩ = some (.int .i64 a0_3) := (blk_cell BK985.out 3).trans rfl
   have hfs34 := fz_ BK985 3
   have hns34_1 := NB986_985.out
   have hms34_1 := NB985_986.out
   refine skip_ (w1 := ?_) (by rfl) rfl ?_ ?_
   rotate_left
   ·go_simp
    rfl
   refine hK.out _ _ ?_
   clear hK K
   refine last_ (i := 5) (N := none) #[true, true, true, true, true, true] rfl rfl (by kernel_rfl) (by decide) (fun K hK => ?_)
   have hs35 : w30.cell? ⟨gb986, 0, none⟩ = some (.int .i64 a1_0) := (blk_cell BK986.out 0).trans rfl
   have hfs35 := fz_ BK986 0
   have hns35_0 := NB985_986.out
   have hms35_0 := NB986_985.out
   have hs36 : w30.cell? ⟨gb986, 1, none⟩ = some (.bool a1_1) := (blk_cell BK986.out 1).trans rfl
   have hfs36 := fz_ BK986 1
   have hns36_0 := NB985_986.out
   have hms36_0 := NB986_985.out
   have hs37 : w30.cell? ⟨gb986, 2, none⟩ = some (.int .u64 a1_2) := (blk_cell BK986.out 2).trans rfl
   have hfs37 := fz_ BK986 2
   have hns37_0 := NB985_986.out
   have hms37_0 := NB986_985.out
   have hs38 : w30.cell? ⟨gb986, 3, none⟩ = some (.int .i64 a1_3) := (blk_cell BK986.out 3).trans rfl
   have hfs38 := fz_ BK986 3
   have hns38_0 := NB985_986.out
   have hms38_0 := NB986_985.out
   refine skip_ (w1 := ?_) (by rfl) rfl ?_ ?_
   rotate_left
   ·go_simp
    rfl
   refine hK.out _ _ ?_
   clear hK K
   refine done_ (by kernel_rfl) ?_
   try go_wp2
   have n0_ : Aside0 (((((((((w30.setCell ⟨gb985, 0, none⟩ (.int .i64 t987)).setCell ⟨gb985, 1, none⟩ (.bool t988)).setCell ⟨gb985, 2, none⟩ (.int .u64 t989)).setCell ⟨gb985, 3, none⟩ (.int .i64 t990)).setCell ⟨gb986, 0, none⟩ (.int .i64 t991)).setCell ⟨gb986, 1, none⟩ (.bool t992)).setCell ⟨gb986, 2, none⟩ (.int .u64 t993)).setCell ⟨gb986, 3, none⟩ (.int .i64 t994)).heap[gb985]? = some (.cells #[.int .i64 t987, .bool t988, .int .u64 t989, .int .i64 t990] 24 (0, 0))) := ⟨by refine kb_ ?_; refine bf_ NB985_986 ?_; refine bf_ NB985_986 ?_; refine bf_ NB985_986 ?_; refine bf_ NB985_986 ?_; refine bp_ #[.int .i64 t987, .bool t988, .int .u64 t989, .int .i64 a0_3] 3 ?_; refine bp_ #[.int .i64 t987, .bool t988, .int .u64 a0_2, .int .i64 a0_3] 2 ?_; refine bp_ #[.int .i64 t987, .bool a0_1, .int .u64 a0_2, .int .i64 a0_3] 1 ?_; refine bp_ #[.int .i64 a0_0, .bool a0_1, .int .u64 a0_2, .int .i64 a0_3] 0 ?_; exact BK985.out⟩
   have n1_ : Aside0 (((((((((w30.setCell ⟨gb985, 0, none⟩ (.int .i64 t987)).setCell ⟨gb985, 1, none⟩ (.bool t988)).setCell ⟨gb985, 2, none⟩ (.int .u64 t989)).setCell ⟨gb985, 3, none⟩ (.int .i64 t990)).setCell ⟨gb986, 0, none⟩ (.int .i64 t991)).setCell ⟨gb986, 1, none⟩ (.bool t992)).setCell ⟨gb986, 2, none⟩ (.int .u64 t993)).setCell ⟨gb986, 3, none⟩ (.int .i64 t994)).heap[gb986]? = some (.cells #[.int .i64 t991, .bool t992, .int .u64 t993, .int .i64 t994] 24 (0, 0))) := ⟨by refine kb_ ?_; refine bp_ #[.int .i64 t991, .bool t992, .int .u64 t993, .int .i64 a1_3] 3 ?_; refine bp_ #[.int .i64 t991, .bool t992, .int .u64 a1_2, .int .i64 a1_3] 2 ?_; refine bp_ #[.int .i64 t991, .bool a1_1, .int .u64 a1_2, .int .i64 a1_3] 1 ?_; refine bp_ #[.int .i64 a1_0, .bool a1_1, .int .u64 a1_2, .int .i64 a1_3] 0 ?_; refine bf_ NB986_985 ?_; refine bf_ NB986_985 ?_; refine bf_ NB986_985 ?_; refine bf_ NB986_985 ?_; exact BK986.out⟩
   have n2_ : Aside0 (Below w.heap.size w ((((((((w30.setCell ⟨gb985, 0, none⟩ (.int .i64 t987)).setCell ⟨gb985, 1, none⟩ (.bool t988)).setCell ⟨gb985, 2, none⟩ (.int .u64 t989)).setCell ⟨gb985, 3, none⟩ (.int .i64 t990)).setCell ⟨gb986, 0, none⟩ (.int .i64 t991)).setCell ⟨gb986, 1, none⟩ (.bool t992)).setCell ⟨gb986, 2, none⟩ (.int .u64 t993)).setCell ⟨gb986, 3, none⟩ (.int .i64 t994))) := ⟨bw_ HB.out⟩
   (try clear BK985)
   (try clear BK986)
   (try clear HB)
   generalize ((((((((w30.setCell ⟨gb985, 0, none⟩ (.int .i64 t987)).setCell ⟨gb985, 1, none⟩ (.bool t988)).setCell ⟨gb985, 2, none⟩ (.int .u64 t989)).setCell ⟨gb985, 3, none⟩ (.int .i64 t990)).setCell ⟨gb986, 0, none⟩ (.int .i64 t991)).setCell ⟨gb986, 1, none⟩ (.bool t992)).setCell ⟨gb986, 2, none⟩ (.int .u64 t993)).setCell ⟨gb986, 3, none⟩ (.int .i64 t994)) = w39 at n0_ n1_ n2_ ⊢
   have BK985 := n0_
   have BK986 := n1_
   have HB := n2_
   clear n0_ n1_ n2_
   have n0_ := Aside0.mk (blk_drew BK985.out)
   have n1_ := Aside0.mk (blk_drew BK986.out)
   have n2_ := Aside0.mk (below_drew1 HB.out)
   clear BK985
   clear BK986
   clear HB
   have BK985 := n0_
   have BK986 := n1_
   have HB := n2_
   clear n0_ n1_ n2_
   refine start_ (n := 6) (S := fun w' => w'.cell? ⟨gb985, 0, none⟩ = some (.int .i64 t987) ∧ w'.cell? ⟨gb985, 1, none⟩ = some (.bool t988) ∧ w'.cell? ⟨gb985, 2, none⟩ = some (.int .u64 t989) ∧ w'.cell? ⟨gb985, 3, none⟩ = some (.int .i64 t990) ∧ w'.cell? ⟨gb986, 0, none⟩ = some (.int .i64 t991) ∧ w'.cell? ⟨gb986, 1, none⟩ = some (.bool t992) ∧ w'.cell? ⟨gb986, 2, none⟩ = some (.int .u64 t993) ∧ w'.cell? ⟨gb986, 3, none⟩ = some (.int .i64 t994)) (ds := []) #[false, false, false, false, false, false] (by kernel_rfl) rfl rfl ⟨(blk_cell BK985.out 0).trans rfl, (blk_cell BK985.out 1).trans rfl, (blk_cell BK985.out 2).trans rfl, (blk_cell BK985.out 3).trans rfl, (blk_cell BK986.out 0).trans rfl, (blk_cell BK986.out 1).trans rfl, (blk_cell BK986.out 2).trans rfl, (blk_cell BK986.out 3).trans rfl⟩ (fun hHeld => ?_)
   generalize w39.drew = w40 at BK985 BK986 HB hHeld ⊢
   refine take_ (i := 0) (N := some 11) (v := ?_) (a' := ?_) #[true, false, false, false, false, false] rfl rfl (by kernel_rfl) (fun _ _ _ h => h) (Or.inl ⟨by rfl, ?_⟩) hHeld ?_ ?_
   rotate_left
   ·rintro w' ⟨s0, s1, s2, s3, s4, s5, s6, s7⟩
    go_simp
    with_reducible rfl
   rotate_left
   ·exact pt_
   refine take_ (i := 2) (N := some 13) (v := ?_) (a' := ?_) #[true, false, true, false, false, false] rfl rfl (by kernel_rfl) (fun _ _ _ h => h) (Or.inl ⟨by rfl, ?_⟩) hHeld ?_ ?_
   rotate_left
   ·rintro w' ⟨s0, s1, s2, s3, s4, s5, s6, s7⟩
    go_simp
    with_reducible rfl
   rotate_left
   ·exact pt_
   refine one_ (i := 1) (N := some 12) #[true, true, true, false, false, false] rfl rfl (by kernel_rfl) (by decide) (fun K hK => ?_)
   refine gs_ Try.func27 #[.agg #[.int .i64 t987, .bool t988, .int .u64 t989, .int .i64 t990]] ?_
   with_reducible refine (num_Sign.calls t987 t988 t989 t990 t995 _ A5.out).mono ?_
   rintro e w41 ⟨rfl, hb⟩
   refine ⟨_, rfl, ?_⟩
   have n0_ := kq_ BK985 hb
   have n1_ := kq_ BK986 hb
   have n2_ := bq_ HB hb
   clear BK985
   clear BK986
   clear HB
   have BK985 := n0_
   have BK986 := n1_
   have HB := n2_
   clear n0_ n1_ n2_
   (try clear hb)
   (try clear hb2)
   (try clear hk)
   (try clear hi)
   refine hK.out _ _ ⟨(blk_cell BK985.out 0).trans rfl, (blk_cell BK985.out 1).trans rfl, (blk_cell BK985.out 2).trans rfl, (blk_cell BK985.out 3).trans rfl, (blk_cell BK986.out 0).trans rfl, (blk_cell BK986.out 1).trans rfl, (blk_cell BK986.out 2).trans rfl, (blk_cell BK986.out 3).trans rfl⟩ (fun hHeld => ?_)
   clear hK K
   refine norm_ (a' := ?_) ?_ ?_
   rotate_left
   ·show Act.put _ (some 12) _ = _
    exact pt_
   refine one_ (i := 3) (N := some 14) #[true, true, true, true, false, false] rfl rfl (by kernel_rfl) (by decide) (fun K hK => ?_)
   refine gs_ Try.func27 #[.agg #[.int .i64 t991, .bool t992, .int .u64 t993, .int .i64 t994]] ?_
   with_reducible refine (num_Sign.calls t991 t992 t993 t994 t996 _ A6.out).mono ?_
   rintro e w42 ⟨rfl, hb⟩
   refine ⟨_, rfl, ?_⟩
   have n0_ := kq_ BK985 hb
   have n1_ := kq_ BK986 hb
   have n2_ := bq_ HB hb
   clear BK985
   clear BK986
   clear HB
   have BK985 := n0_
   have BK986 := n1_
   have HB := n2_
   clear n0_ n1_ n2_
   (try clear hb)
   (try clear hb2)
   (try clear hk)
   (try clear hi)
   refine hK.out _ _ ⟨(blk_cell BK985.out 0).trans rfl, (blk_cell BK985.out 1).trans rfl, (blk_cell BK985.out 2).trans rfl, (blk_cell BK985.out 3).trans rfl, (blk_cell BK986.out 0).trans rfl, (blk_cell BK986.out 1).trans rfl, (blk_cell BK986.out 2).trans rfl, (blk_cell BK986.out 3).trans rfl⟩ (fun hHeld => ?_)
   clear hK K
   refine norm_ (a' := ?_) ?_ ?_
   rotate_left
   ·show Act.put _ (some 14) _ = _
    exact pt_
   refine pure_ (i := 4) (N := some 5) (v := ?_) (a' := ?_) #[true, true, true, true, true, false] rfl rfl (by kernel_rfl) (fun _ _ _ h => h) (Or.inl ⟨by rfl, ?_⟩) ?_ ?_
   rotate_left
   ·intro w'
    go_simp
    with_reducible rfl
   rotate_left
   ·exact pt_
   refine pure_ (i := 5) (N := some 6) (v := ?_) (a' := ?_) #[true, true, true, true, true, true] rfl rfl (by kernel_rfl) (fun _ _ _ h => h) (Or.inl ⟨by rfl, ?_⟩) ?_ ?_
   rotate_left
   ·intro w'
    go_simp
    with_reducible rfl
   rotate_left
   ·exact pt_
   refine done_ (by kernel_rfl) ?_
   try go_wp2
   go_ret
   exact ⟨rf_, bw_ HB.out⟩
  ·rw [if_neg c25] at H
   have c25b0 : decide (t996 < t995) = false := decide_eq_false c25
   clear c25
   replace H := Option.bind_eq_some_iff.mp H
   obtain ⟨t997, A430, H⟩ := H
   (try dsimp only at H)
   have A43 := Aside0.mk A430
   clear A430
   by_cases c44 : t997 = true
   ·subst c44
    have H1 : (some t995) = some r := by rw [if_pos rfl] at H; exact H
    clear H
    have H := H1
    clear H1
    obtain rfl := Option.some.inj H
    go_enter Try.func26, Try.ntmps26
    try go_wp2_with (first | ((with_reducible refine gate_dst (N := 2) rfl ?_); refine bx_ 2 #[.int .i64 a0_0, .bool a0_1, .int .u64 a0_2, .int .i64 a0_3] 24 ?_; intro gb985 hg w45 hbox hb; have n0_ := bq_ HB hb; have n1_ := Aside0.mk (hbox); have n2_ := ge_ hg HB; have n3_ := ge_ hg HB; clear HB; have HB := n0_; have BK985 := n1_; have GW985 := n2_; have GE985 := n3_; clear n0_ n1_ n2_ n3_; clear hb hbox hg) | ((with_reducible refine gate_dst (N := 3) rfl ?_); refine bx_ 3 #[.int .i64 a1_0, .bool a1_1, .int .u64 a1_2, .int .i64 a1_3] 24 ?_; intro gb986 hg w46 hbox hb; have n0_ := kq_ BK985 hb; have n1_ := bq_ HB hb; have n2_ := Aside0.mk (hbox); have n3_ := ge_ hg HB; have n4_ := ge_ hg HB; have n5_ := nb_ hg BK985; have n6_ := nc_ hg BK985; clear BK985; clear HB; have BK985 := n0_; have HB := n1_; have BK986 := n2_; have GW986 := n3_; have GE986 := n4_; have NB985_986 := n5_; have NB986_985 := n6_; clear n0_ n1_ n2_ n3_ n4_ n5_ n6_; clear hb hbox hg))
    have n0_ := Aside0.mk (blk_drew BK985.out)
    have n1_ := Aside0.mk (blk_drew BK986.out)
    have n2_ := Aside0.mk (below_drew1 HB.out)
    clear BK985
    clear BK986
    clear HB
    have BK985 := n0_
    have BK986 := n1_
    have HB := n2_
    clear n0_ n1_ n2_
    refine start_ (n := 6) (S := fun w' => w'.cell? ⟨gb985, 0, none⟩ = some (.int .i64 a0_0) ∧ w'.cell? ⟨gb985, 1, none⟩ = some (.bool a0_1) ∧ w'.cell? ⟨gb985, 2, none⟩ = some (.int .u64 a0_2) ∧ w'.cell? ⟨gb985, 3, none⟩ = some (.int .i64 a0_3) ∧ w'.cell? ⟨gb986, 0, none⟩ = some (.int .i64 a1_0) ∧ w'.cell? ⟨gb986, 1, none⟩ = some (.bool a1_1) ∧ w'.cell? ⟨gb986, 2, none⟩ = some (.int .u64 a1_2) ∧ w'.cell? ⟨gb986, 3, none⟩ = some (.int .i64 a1_3)) (ds := [4, 5]) #[false, false, false, false, false, false] (by kernel_rfl) rfl rfl ⟨(blk_cell BK985.out 0).trans rfl, (blk_cell BK985.out 1).trans rfl, (blk_cell BK985.out 2).trans rfl, (blk_cell BK985.out 3).trans rfl, (blk_cell BK986.out 0).trans rfl, (blk_cell BK986.out 1).trans rfl, (blk_cell BK986.out 2).trans rfl, (blk_cell BK986.out 3).trans rfl⟩ (fun hHeld => ?_)
    generalize w46.drew = w47 at BK985 BK986 HB hHeld ⊢
    refine take_ (i := 0) (N := some 7) (v := ?_) (a' := ?_) #[true, false, false, false, false, false] rfl rfl (by kernel_rfl) (fun _ _ _ h => h) (Or.inl ⟨by rfl, ?_⟩) hHeld ?_ ?_
    rotate_left
    ·rintro w' ⟨s0, s1, s2, s3, s4, s5, s6, s7⟩
     go_simp
     with_reducible rfl
    rotate_left
    ·exact pt_
    refine take_ (i := 2) (N := some 9) (v := ?_) (a' := ?_) #[true, false, true, false, false, false] rfl rfl (by kernel_rfl) (fun _ _ _ h => h) (Or.inl ⟨by rfl, ?_⟩) hHeld ?_ ?_
    rotate_left
    ·rintro w' ⟨s0, s1, s2, s3, s4, s5, s6, s7⟩
     go_simp
     with_reducible rfl
    rotate_left
    ·exact pt_
    refine one_ (i := 1) (N := some 8) #[true, true, true, false, false, false] rfl rfl (by kernel_rfl) (by decide) (fun K hK => ?_)
    refine gs_ Try.func34 #[.agg #[.int .i64 a0_0, .bool a0_1, .int .u64 a0_2, .int .i64 a0_3]] ?_
    with_reducible refine (num_fair.calls a0_0 a0_1 a0_2 a0_3 t987 t988 t989 t990 _ A3.out).mono ?_
    rintro e w48 ⟨rfl, hb⟩
    refine ⟨_, rfl, ?_⟩
    have n0_ := kq_ BK985 hb
    have n1_ := kq_ BK986 hb
    have n2_ := bq_ HB hb
    clear BK985
    clear BK986
    clear HB
    have BK985 := n0_
    have BK986 := n1_
    have HB := n2_
    clear n0_ n1_ n2_
    (try clear hb)
    (try clear hb2)
    (try clear hk)
    (try clear hi)
    refine hK.out _ _ ⟨(blk_cell BK985.out 0).trans rfl, (blk_cell BK985.out 1).trans rfl, (blk_cell BK985.out 2).trans rfl, (blk_cell BK985.out 3).trans rfl, (blk_cell BK986.out 0).trans rfl, (blk_cell BK986.out 1).trans rfl, (blk_cell BK986.out 2).trans rfl, (blk_cell BK986.out 3).trans rfl⟩ (fun hHeld => ?_)
    clear hK K
    refine norm_ (a' := ?_) ?_ ?_
    rotate_left
    ·show Act.put _ (some 8) _ = _
     exact pt_
    refine one_ (i := 3) (N := some 10) #[true, true, true, true, false, false] rfl rfl (by kernel_rfl) (by decide) (fun K hK => ?_)
    refine gs_ Try.func34 #[.agg #[.int .i64 a1_0, .bool a1_1, .int .u64 a1_2, .int .i64 a1_3]] ?_
    with_reducible refine (num_fair.calls a1_0 a1_1 a1_2 a1_3 t991 t992 t993 t994 _ A4.out).mono ?_
    rintro e w49 ⟨rfl, hb⟩
    refine ⟨_, rfl, ?_⟩
    have n0_ := kq_ BK985 hb
    have n1_ := kq_ BK986 hb
    have n2_ := bq_ HB hb
    clear BK985
    clear BK986
    clear HB
    have BK985 := n0_
    have BK986 := n1_
    have HB := n2_
    clear n0_ n1_ n2_
    (try clear hb)
    (try clear hb2)
    (try clear hk)
    (try clear hi)
    refine hK.out _ _ ⟨(blk_cell BK985.out 0).trans rfl, (blk_cell BK985.out 1).trans rfl, (blk_cell BK985.out 2).trans rfl, (blk_cell BK985.out 3).trans rfl, (blk_cell BK986.out 0).trans rfl, (blk_cell BK986.out 1).trans rfl, (blk_cell BK986.out 2).trans rfl, (blk_cell BK986.out 3).trans rfl⟩ (fun hHeld => ?_)
    clear hK K
    refine norm_ (a' := ?_) ?_ ?_
    rotate_left
    ·show Act.put _ (some 10) _ = _
     exact pt_
    refine last_ (i := 4) (N := none) #[true, true, true, true, true, false] rfl rfl (by kernel_rfl) (by decide) (fun K hK => ?_)
    have hs50 : w49.cell? ⟨gb985, 0, none⟩ = some (.int .i64 a0_0) := (blk_cell BK985.out 0).trans rfl
    have hfs50 := fz_ BK985 0
    have hns50_1 := NB986_985.out
    have hms50_1 := NB985_986.out
    have hs51 : w49.cell? ⟨gb985, 1, none⟩ = some (.bool a0_1) := (blk_cell BK985.out 1).trans rfl
    have hfs51 := fz_ BK985 1
    have hns51_1 := NB986_985.out
    have hms51_1 := NB985_986.out
    have hs52 : w49.cell? ⟨gb985, 2, none⟩ = some (.int .u64 a0_2) := (blk_cell BK985.out 2).trans rfl
    have hfs52 := fz_ BK985 2
    have hns52_1 := NB986_985.out
    have hms52_1 := NB985_986.out
    have hs53 : w49.cell? ⟨gb985, 3, none⟩ = some (.int .i64 a0_3) := (blk_cell BK985.out 3).trans rfl
    have hfs53 := fz_ BK985 3
    have hns53_1 := NB986_985.out
    have hms53_1 := NB985_986.out
    refine skip_ (w1 := ?_) (by rfl) rfl ?_ ?_
    rotate_left
    ·go_simp
     rfl
    refine hK.out _ _ ?_
    clear hK K
    refine last_ (i := 5) (N := none) #[true, true, true, true, true, true] rfl rfl (by kernel_rfl) (by decide) (fun K hK => ?_)
    have hs54 : w49.cell? ⟨gb986, 0, none⟩ = some (.int .i64 a1_0) := (blk_cell BK986.out 0).trans rfl
    have hfs54 := fz_ BK986 0
    have hns54_0 := NB985_986.out
    have hms54_0 := NB986_985.out
    have hs55 : w49.cell? ⟨gb986, 1, none⟩ = some (.bool a1_1) := (blk_cell BK986.out 1).trans rfl
    have hfs55 := fz_ BK986 1
    have hns55_0 := NB985_986.out
    have hms55_0 := NB986_985.out
    have hs56 : w49.cell? ⟨gb986, 2, none⟩ = some (.int .u64 a1_2) := (blk_cell BK986.out 2).trans rfl
    have hfs56 := fz_ BK986 2
    have hns56_0 := NB985_986.out
    have hms56_0 := NB986_985.out
    have hs57 : w49.cell? ⟨gb986, 3, none⟩ = some (.int .i64 a1_3) := (blk_cell BK986.out 3).trans rfl
    have hfs57 := fz_ BK986 3
    have hns57_0 := NB985_986.out
    have hms57_0 := NB986_985.out
    refine skip_ (w1 := ?_) (by rfl) rfl ?_ ?_
    rotate_left
    ·go_simp
     rfl
    refine hK.out _ _ ?_
    clear hK K
    refine done_ (by kernel_rfl) ?_
    try go_wp2
    have n0_ : Aside0 (((((((((w49.setCell ⟨gb985, 0, none⟩ (.int .i64 t987)).setCell ⟨gb985, 1, none⟩ (.bool t988)).setCell ⟨gb985, 2, none⟩ (.int .u64 t989)).setCell ⟨gb985, 3, none⟩ (.int .i64 t990)).setCell ⟨gb986, 0, none⟩ (.int .i64 t991)).setCell ⟨gb986, 1, none⟩ (.bool t992)).setCell ⟨gb986, 2, none⟩ (.int .u64 t993)).setCell ⟨gb986, 3, none⟩ (.int .i64 t994)).heap[gb985]? = some (.cells #[.int .i64 t987, .bool t988, .int .u64 t989, .int .i64 t990] 24 (0, 0))) := ⟨by refine kb_ ?_; refine bf_ NB985_986 ?_; refine bf_ NB985_986 ?_; refine bf_ NB985_986 ?_; refine bf_ NB985_986 ?_; refine bp_ #[.int .i64 t987, .bool t988, .int .u64 t989, .int .i64 a0_3] 3 ?_; refine bp_ #[.int .i64 t987, .bool t988, .int .u64 a0_2, .int .i64 a0_3] 2 ?_; refine bp_ #[.int .i64 t987, .bool a0_1, .int .u64 a0_2, .int .i64 a0_3] 1 ?_; refine bp_ #[.int .i64 a0_0, .bool a0_1, .int .u64 a0_2, .int .i64 a0_3] 0 ?_; exact BK985.out⟩
    have n1_ : Aside0 (((((((((w49.setCell ⟨gb985, 0, none⟩ (.int .i64 t987)).setCell ⟨gb985, 1, none⟩ (.bool t988)).setCell ⟨gb985, 2, none⟩ (.int .u64 t989)).setCell ⟨gb985, 3, none⟩ (.int .i64 t990)).setCell ⟨gb986, 0, none⟩ (.int .i64 t991)).setCell ⟨gb986, 1, none⟩ (.bool t992)).setCell ⟨gb986, 2, none⟩ (.int .u64 t993)).setCell ⟨gb986, 3, none⟩ (.int .i64 t994)).heap[gb986]? = some (.cells #[.int .i64 t991, .bool t992, .int .u64 t993, .int .i64 t994] 24 (0, 0))) := ⟨by refine kb_ ?_; refine bp_ #[.int .i64 t991, .bool t992, .int .u64 t993, .int .i64 a1_3] 3 ?_; refine bp_ #[.int .i64 t991, .bool t992, .int .u64 a1_2, .int .i64 a1_3] 2 ?_; refine bp_ #[.int .i64 t991, .bool a1_1, .int .u64 a1_2, .int .i64 a1_3] 1 ?_; refine bp_ #[.int .i64 a1_0, .bool a1_1, .int .u64 a1_2, .int .i64 a1_3] 0 ?_; refine bf_ NB986_985 ?_; refine bf_ NB986_985 ?_; refine bf_ NB986_985 ?_; refine bf_ NB986_985 ?_; exact BK986.out⟩
    have n2_ : Aside0 (Below w.heap.size w ((((((((w49.setCell ⟨gb985, 0, none⟩ (.int .i64 t987)).setCell ⟨gb985, 1, none⟩ (.bool t988)).setCell ⟨gb985, 2, none⟩ (.int .u64 t989)).setCell ⟨gb985, 3, none⟩ (.int .i64 t990)).setCell ⟨gb986, 0, none⟩ (.int .i64 t991)).setCell ⟨gb986, 1, none⟩ (.bool t992)).setCell ⟨gb986, 2, none⟩ (.int .u64 t993)).setCell ⟨gb986, 3, none⟩ (.int .i64 t994))) := ⟨bw_ HB.out⟩
    (try clear BK985)
    (try clear BK986)
    (try clear HB)
    generalize ((((((((w49.setCell ⟨gb985, 0, none⟩ (.int .i64 t987)).setCell ⟨gb985, 1, none⟩ (.bool t988)).setCell ⟨gb985, 2, none⟩ (.int .u64 t989)).setCell ⟨gb985, 3, none⟩ (.int .i64 t990)).setCell ⟨gb986, 0, none⟩ (.int .i64 t991)).setCell ⟨gb986, 1, none⟩ (.bool t992)).setCell ⟨gb986, 2, none⟩ (.int .u64 t993)).setCell ⟨gb986, 3, none⟩ (.int .i64 t994)) = w58 at n0_ n1_ n2_ ⊢
    have BK985 := n0_
    have BK986 := n1_
    have HB := n2_
    clear n0_ n1_ n2_
    have n0_ := Aside0.mk (blk_drew BK985.out)
    have n1_ := Aside0.mk (blk_drew BK986.out)
    have n2_ := Aside0.mk (below_drew1 HB.out)
    clear BK985
    clear BK986
    clear HB
    have BK985 := n0_
    have BK986 := n1_
    have HB := n2_
    clear n0_ n1_ n2_
    refine start_ (n := 6) (S := fun w' => w'.cell? ⟨gb985, 0, none⟩ = some (.int .i64 t987) ∧ w'.cell? ⟨gb985, 1, none⟩ = some (.bool t988) ∧ w'.cell? ⟨gb985, 2, none⟩ = some (.int .u64 t989) ∧ w'.cell? ⟨gb985, 3, none⟩ = some (.int .i64 t990) ∧ w'.cell? ⟨gb986, 0, none⟩ = some (.int .i64 t991) ∧ w'.cell? ⟨gb986, 1, none⟩ = some (.bool t992) ∧ w'.cell? ⟨gb986, 2, none⟩ = some (.int .u64 t993) ∧ w'.cell? ⟨gb986, 3, none⟩ = some (.int .i64 t994)) (ds := []) #[false, false, false, false, false, false] (by kernel_rfl) rfl rfl ⟨(blk_cell BK985.out 0).trans rfl, (blk_cell BK985.out 1).trans rfl, (blk_cell BK985.out 2).trans rfl, (blk_cell BK985.out 3).trans rfl, (blk_cell BK986.out 0).trans rfl, (blk_cell BK986.out 1).trans rfl, (blk_cell BK986.out 2).trans rfl, (blk_cell BK986.out 3).trans rfl⟩ (fun hHeld => ?_)
    generalize w58.drew = w59 at BK985 BK986 HB hHeld ⊢
    refine take_ (i := 0) (N := some 11) (v := ?_) (a' := ?_) #[true, false, false, false, false, false] rfl rfl (by kernel_rfl) (fun _ _ _ h => h) (Or.inl ⟨by rfl, ?_⟩) hHeld ?_ ?_
    rotate_left
    ·rintro w' ⟨s0, s1, s2, s3, s4, s5, s6, s7⟩
     go_simp
     with_reducible rfl
    rotate_left
    ·exact pt_
    refine take_ (i := 2) (N := some 13) (v := ?_) (a' := ?_) #[true, false, true, false, false, false] rfl rfl (by kernel_rfl) (fun _ _ _ h => h) (Or.inl ⟨by rfl, ?_⟩) hHeld ?_ ?_
    rotate_left
    ·rintro w' ⟨s0, s1, s2, s3, s4, s5, s6, s7⟩
     go_simp
     with_reducible rfl
    rotate_left
    ·exact pt_
    refine one_ (i := 1) (N := some 12) #[true, true, true, false, false, false] rfl rfl (by kernel_rfl) (by decide) (fun K hK => ?_)
    refine gs_ Try.func27 #[.agg #[.int .i64 t987, .bool t988, .int .u64 t989, .int .i64 t990]] ?_
    with_reducible refine (num_Sign.calls t987 t988 t989 t990 t995 _ A5.out).mono ?_
    rintro e w60 ⟨rfl, hb⟩
    refine ⟨_, rfl, ?_⟩
    have n0_ := kq_ BK985 hb
    have n1_ := kq_ BK986 hb
    have n2_ := bq_ HB hb
    clear BK985
    clear BK986
    clear HB
    have BK985 := n0_
    have BK986 := n1_
    have HB := n2_
    clear n0_ n1_ n2_
    (try clear hb)
    (try clear hb2)
    (try clear hk)
    (try clear hi)
    refine hK.out _ _ ⟨(blk_cell BK985.out 0).trans rfl, (blk_cell BK985.out 1).trans rfl, (blk_cell BK985.out 2).trans rfl, (blk_cell BK985.out 3).trans rfl, (blk_cell BK986.out 0).trans rfl, (blk_cell BK986.out 1).trans rfl, (blk_cell BK986.out 2).trans rfl, (blk_cell BK986.out 3).trans rfl⟩ (fun hHeld => ?_)
    clear hK K
    refine norm_ (a' := ?_) ?_ ?_
    rotate_left
    ·show Act.put _ (some 12) _ = _
     exact pt_
    refine one_ (i := 3) (N := some 14) #[true, true, true, true, false, false] rfl rfl (by kernel_rfl) (by decide) (fun K hK => ?_)
    refine gs_ Try.func27 #[.agg #[.int .i64 t991, .bool t992, .int .u64 t993, .int .i64 t994]] ?_
    with_reducible refine (num_Sign.calls t991 t992 t993 t994 t996 _ A6.out).mono ?_
    rintro e w61 ⟨rfl, hb⟩
    refine ⟨_, rfl, ?_⟩
    have n0_ := kq_ BK985 hb
    have n1_ := kq_ BK986 hb
    have n2_ := bq_ HB hb
    clear BK985
    clear BK986
    clear HB
    have BK985 := n0_
    have BK986 := n1_
    have HB := n2_
    clear n0_ n1_ n2_
    (try clear hb)
    (try clear hb2)
    (try clear hk)
    (try clear hi)
    refine hK.out _ _ ⟨(blk_cell BK985.out 0).trans rfl, (blk_cell BK985.out 1).trans rfl, (blk_cell BK985.out 2).trans rfl, (blk_cell BK985.out 3).trans rfl, (blk_cell BK986.out 0).trans rfl, (blk_cell BK986.out 1).trans rfl, (blk_cell BK986.out 2).trans rfl, (blk_cell BK986.out 3).trans rfl⟩ (fun hHeld => ?_)
    clear hK K
    refine norm_ (a' := ?_) ?_ ?_
    rotate_left
    ·show Act.put _ (some 14) _ = _
     exact pt_
    refine pure_ (i := 4) (N := some 5) (v := ?_) (a' := ?_) #[true, true, true, true, true, false] rfl rfl (by kernel_rfl) (fun _ _ _ h => h) (Or.inl ⟨by rfl, ?_⟩) ?_ ?_
    rotate_left
    ·intro w'
     go_simp
     with_reducible rfl
    rotate_left
    ·exact pt_
    refine pure_ (i := 5) (N := some 6) (v := ?_) (a' := ?_) #[true, true, true, true, true, true] rfl rfl (by kernel_rfl) (fun _ _ _ h => h) (Or.inl ⟨by rfl, ?_⟩) ?_ ?_
    rotate_left
    ·intro w'
     go_simp
     with_reducible rfl
    rotate_left
    ·exact pt_
    refine done_ (by kernel_rfl) ?_
    have hnb62 := NB985_986.out
    have hnc62 := NB986_985.out
    obtain ⟨hcz63_0, hcz63_1, hcz63_2, hcz63_3, hfz63_0, hfz63_1, hfz63_2, hfz63_3⟩ := c4_ BK985
    obtain ⟨hcz64_0, hcz64_1, hcz64_2, hcz64_3, hfz64_0, hfz64_1, hfz64_2, hfz64_3⟩ := c4_ BK986
    try go_wp2_with (first | ((with_reducible refine gate_callee (f := 49) rfl ?_); refine gl_ (some 26) Try.func49 #[.agg #[.int .i64 t987, .bool t988, .int .u64 t989, .int .i64 t990], .agg #[.int .i64 t991, .bool t992, .int .u64 t993, .int .i64 t994]] ?_; (with_reducible refine (num_farther.calls t987 t988 t989 t990 t991 t992 t993 t994 true _ A43.out).mono ?_); rintro e w65 ⟨rfl, hb⟩; refine ⟨_, rfl, ?_⟩; have n0_ := kq_ BK985 hb; have n1_ := kq_ BK986 hb; have n2_ := bq_ HB hb; clear BK985; clear BK986; clear HB; have BK985 := n0_; have BK986 := n1_; have HB := n2_; clear n0_ n1_ n2_; (try clear hb); (try clear hb2); (try clear hk); (try clear hi)))
    go_ret
    exact ⟨rf_, bw_ HB.out⟩
   ·replace c44 := Bool.eq_false_iff.mpr c44
    subst c44
    have H1 : ((num_farther.f t991 t992 t993 t994 t987 t988 t989 t990).bind fun t998 => (if t998 = true then (some (wrap64 (-t995))) else (some 0))) = some r := by rw [if_neg (show ¬ (false = true) by decide)] at H; exact H
    clear H
    have H := H1
    clear H1
    replace H := Option.bind_eq_some_iff.mp H
    obtain ⟨t998, A660, H⟩ := H
    (try dsimp only at H)
    have A66 := Aside0.mk A660
    clear A660
    by_cases c67 : t998 = true
    ·subst c67
     have H1 : (some (wrap64 (-t995))) = some r := by rw [if_pos rfl] at H; exact H
     clear H
     have H := H1
     clear H1
     obtain rfl := Option.some.inj H
     go_enter Try.func26, Try.ntmps26
     try go_wp2_with (first | ((with_reducible refine gate_dst (N := 2) rfl ?_); refine bx_ 2 #[.int .i64 a0_0, .bool a0_1, .int .u64 a0_2, .int .i64 a0_3] 24 ?_; intro gb985 hg w68 hbox hb; have n0_ := bq_ HB hb; have n1_ := Aside0.mk (hbox); have n2_ := ge_ hg HB; have n3_ := ge_ hg HB; clear HB; have HB := n0_; have BK985 := n1_; have GW985 := n2_; have GE985 := n3_; clear n0_ n1_ n2_ n3_; clear hb hbox hg) | ((with_reducible refine gate_dst (N := 3) rfl ?_); refine bx_ 3 #[.int .i64 a1_0, .bool a1_1, .int .u64 a1_2, .int .i64 a1_3] 24 ?_; intro gb986 hg w69 hbox hb; have n0_ := kq_ BK985 hb; have n1_ := bq_ HB hb; have n2_ := Aside0.mk (hbox); have n3_ := ge_ hg HB; have n4_ := ge_ hg HB; have n5_ := nb_ hg BK985; have n6_ := nc_ hg BK985; clear BK985; clear HB; have BK985 := n0_; have HB := n1_; have BK986 := n2_; have GW986 := n3_; have GE986 := n4_; have NB985_986 := n5_; have NB986_985 := n6_; clear n0_ n1_ n2_ n3_ n4_ n5_ n6_; clear hb hbox hg))
     have n0_ := Aside0.mk (blk_drew BK985.out)
     have n1_ := Aside0.mk (blk_drew BK986.out)
     have n2_ := Aside0.mk (below_drew1 HB.out)
     clear BK985
     clear BK986
     clear HB
     have BK985 := n0_
     have BK986 := n1_
     have HB := n2_
     clear n0_ n1_ n2_
     refine start_ (n := 6) (S := fun w' => w'.cell? ⟨gb985, 0, none⟩ = some (.int .i64 a0_0) ∧ w'.cell? ⟨gb985, 1, none⟩ = some (.bool a0_1) ∧ w'.cell? ⟨gb985, 2, none⟩ = some (.int .u64 a0_2) ∧ w'.cell? ⟨gb985, 3, none⟩ = some (.int .i64 a0_3) ∧ w'.cell? ⟨gb986, 0, none⟩ = some (.int .i64 a1_0) ∧ w'.cell? ⟨gb986, 1, none⟩ = some (.bool a1_1) ∧ w'.cell? ⟨gb986, 2, none⟩ = some (.int .u64 a1_2) ∧ w'.cell? ⟨gb986, 3, none⟩ = some (.int .i64 a1_3)) (ds := [4, 5]) #[false, false, false, false, false, false] (by kernel_rfl) rfl rfl ⟨(blk_cell BK985.out 0).trans rfl, (blk_cell BK985.out 1).trans rfl, (blk_cell BK985.out 2).trans rfl, (blk_cell BK985.out 3).trans rfl, (blk_cell BK986.out 0).trans rfl, (blk_cell BK986.out 1).trans rfl, (blk_cell BK986.out 2).trans rfl, (blk_cell BK986.out 3).trans rfl⟩ (fun hHeld => ?_)
     generalize w69.drew = w70 at BK985 BK986 HB hHeld ⊢
     refine take_ (i := 0) (N := some 7) (v := ?_) (a' := ?_) #[true, false, false, false, false, false] rfl rfl (by kernel_rfl) (fun _ _ _ h => h) (Or.inl ⟨by rfl, ?_⟩) hHeld ?_ ?_
     rotate_left
     ·rintro w' ⟨s0, s1, s2, s3, s4, s5, s6, s7⟩
      go_simp
      with_reducible rfl
     rotate_left
     ·exact pt_
     refine take_ (i := 2) (N := some 9) (v := ?_) (a' := ?_) #[true, false, true, false, false, false] rfl rfl (by kernel_rfl) (fun _ _ _ h => h) (Or.inl ⟨by rfl, ?_⟩) hHeld ?_ ?_
     rotate_left
     ·rintro w' ⟨s0, s1, s2, s3, s4, s5, s6, s7⟩
      go_simp
      with_reducible rfl
     rotate_left
     ·exact pt_
     refine one_ (i := 1) (N := some 8) #[true, true, true, false, false, false] rfl rfl (by kernel_rfl) (by decide) (fun K hK => ?_)
     refine gs_ Try.func34 #[.agg #[.int .i64 a0_0, .bool a0_1, .int .u64 a0_2, .int .i64 a0_3]] ?_
     with_reducible refine (num_fair.calls a0_0 a0_1 a0_2 a0_3 t987 t988 t989 t990 _ A3.out).mono ?_
     rintro e w71 ⟨rfl, hb⟩
     refine ⟨_, rfl, ?_⟩
     have n0_ := kq_ BK985 hb
     have n1_ := kq_ BK986 hb
     have n2_ := bq_ HB hb
     clear BK985
     clear BK986
     clear HB
     have BK985 := n0_
     have BK986 := n1_
     have HB := n2_
     clear n0_ n1_ n2_
     (try clear hb)
     (try clear hb2)
     (try clear hk)
     (try clear hi)
     refine hK.out _ _ ⟨(blk_cell BK985.out 0).trans rfl, (blk_cell BK985.out 1).trans rfl, (blk_cell BK985.out 2).trans rfl, (blk_cell BK985.out 3).trans rfl, (blk_cell BK986.out 0).trans rfl, (blk_cell BK986.out 1).trans rfl, (blk_cell BK986.out 2).trans rfl, (blk_cell BK986.out 3).trans rfl⟩ (fun hHeld => ?_)
     clear hK K
     refine norm_ (a' := ?_) ?_ ?_
     rotate_left
     ·show Act.put _ (some 8) _ = _
      exact pt_
     refine one_ (i := 3) (N := some 10) #[true, true, true, true, false, false] rfl rfl (by kernel_rfl) (by decide) (fun K hK => ?_)
     refine gs_ Try.func34 #[.agg #[.int .i64 a1_0, .bool a1_1, .int .u64 a1_2, .int .i64 a1_3]] ?_
     with_reducible refine (num_fair.calls a1_0 a1_1 a1_2 a1_3 t991 t992 t993 t994 _ A4.out).mono ?_
     rintro e w72 ⟨rfl, hb⟩
     refine ⟨_, rfl, ?_⟩
     have n0_ := kq_ BK985 hb
     have n1_ := kq_ BK986 hb
     have n2_ := bq_ HB hb
     clear BK985
     clear BK986
     clear HB
     have BK985 := n0_
     have BK986 := n1_
     have HB := n2_
     clear n0_ n1_ n2_
     (try clear hb)
     (try clear hb2)
     (try clear hk)
     (try clear hi)
     refine hK.out _ _ ⟨(blk_cell BK985.out 0).trans rfl, (blk_cell BK985.out 1).trans rfl, (blk_cell BK985.out 2).trans rfl, (blk_cell BK985.out 3).trans rfl, (blk_cell BK986.out 0).trans rfl, (blk_cell BK986.out 1).trans rfl, (blk_cell BK986.out 2).trans rfl, (blk_cell BK986.out 3).trans rfl⟩ (fun hHeld => ?_)
     clear hK K
     refine norm_ (a' := ?_) ?_ ?_
     rotate_left
     ·show Act.put _ (some 10) _ = _
      exact pt_
     refine last_ (i := 4) (N := none) #[true, true, true, true, true, false] rfl rfl (by kernel_rfl) (by decide) (fun K hK => ?_)
     have hs73 : w72.cell? ⟨gb985, 0, none⟩ = some (.int .i64 a0_0) := (blk_cell BK985.out 0).trans rfl
     have hfs73 := fz_ BK985 0
     have hns73_1 := NB986_985.out
     have hms73_1 := NB985_986.out
     have hs74 : w72.cell? ⟨gb985, 1, none⟩ = some (.bool a0_1) := (blk_cell BK985.out 1).trans rfl
     have hfs74 := fz_ BK985 1
     have hns74_1 := NB986_985.out
     have hms74_1 := NB985_986.out
     have hs75 : w72.cell? ⟨gb985, 2, none⟩ = some (.int .u64 a0_2) := (blk_cell BK985.out 2).trans rfl
     have hfs75 := fz_ BK985 2
     have hns75_1 := NB986_985.out
     have hms75_1 := NB985_986.out
     have hs76 : w72.cell? ⟨gb985, 3, none⟩ = some (.int .i64 a0_3) := (blk_cell BK985.out 3).trans rfl
     have hfs76 := fz_ BK985 3
     have hns76_1 := NB986_985.out
     have hms76_1 := NB985_986.out
     refine skip_ (w1 := ?_) (by rfl) rfl ?_ ?_
     rotate_left
     ·go_simp
      rfl
     refine hK.out _ _ ?_
     clear hK K
     refine last_ (i := 5) (N := none) #[true, true, true, true, true, true] rfl rfl (by kernel_rfl) (by decide) (fun K hK => ?_)
     have hs77 : w72.cell? ⟨gb986, 0, none⟩ = some (.int .i64 a1_0) := (blk_cell BK986.out 0).trans rfl
     have hfs77 := fz_ BK986 0
     have hns77_0 := NB985_986.out
     have hms77_0 := NB986_985.out
     have hs78 : w72.cell? ⟨gb986, 1, none⟩ = some (.bool a1_1) := (blk_cell BK986.out 1).trans rfl
     have hfs78 := fz_ BK986 1
     have hns78_0 := NB985_986.out
     have hms78_0 := NB986_985.out
     have hs79 : w72.cell? ⟨gb986, 2, none⟩ = some (.int .u64 a1_2) := (blk_cell BK986.out 2).trans rfl
     have hfs79 := fz_ BK986 2
     have hns79_0 := NB985_986.out
     have hms79_0 := NB986_985.out
     have hs80 : w72.cell? ⟨gb986, 3, none⟩ = some (.int .i64 a1_3) := (blk_cell BK986.out 3).trans rfl
     have hfs80 := fz_ BK986 3
     have hns80_0 := NB985_986.out
     have hms80_0 := NB986_985.out
     refine skip_ (w1 := ?_) (by rfl) rfl ?_ ?_
     rotate_left
     ·go_simp
      rfl
     refine hK.out _ _ ?_
     clear hK K
     refine done_ (by kernel_rfl) ?_
     try go_wp2
     have n0_ : Aside0 (((((((((w72.setCell ⟨gb985, 0, none⟩ (.int .i64 t987)).setCell ⟨gb985, 1, none⟩ (.bool t988)).setCell ⟨gb985, 2, none⟩ (.int .u64 t989)).setCell ⟨gb985, 3, none⟩ (.int .i64 t990)).setCell ⟨gb986, 0, none⟩ (.int .i64 t991)).setCell ⟨gb986, 1, none⟩ (.bool t992)).setCell ⟨gb986, 2, none⟩ (.int .u64 t993)).setCell ⟨gb986, 3, none⟩ (.int .i64 t994)).heap[gb985]? = some (.cells #[.int .i64 t987, .bool t988, .int .u64 t989, .int .i64 t990] 24 (0, 0))) := ⟨by refine kb_ ?_; refine bf_ NB985_986 ?_; refine bf_ NB985_986 ?_; refine bf_ NB985_986 ?_; refine bf_ NB985_986 ?_; refine bp_ #[.int .i64 t987, .bool t988, .int .u64 t989, .int .i64 a0_3] 3 ?_; refine bp_ #[.int .i64 t987, .bool t988, .int .u64 a0_2, .int .i64 a0_3] 2 ?_; refine bp_ #[.int .i64 t987, .bool a0_1, .int .u64 a0_2, .int .i64 a0_3] 1 ?_; refine bp_ #[.int .i64 a0_0, .bool a0_1, .int .u64 a0_2, .int .i64 a0_3] 0 ?_; exact BK985.out⟩
     have n1_ : Aside0 (((((((((w72.setCell ⟨gb985, 0, none⟩ (.int .i64 t987)).setCell ⟨gb985, 1, none⟩ (.bool t988)).setCell ⟨gb985, 2, none⟩ (.int .u64 t989)).setCell ⟨gb985, 3, none⟩ (.int .i64 t990)).setCell ⟨gb986, 0, none⟩ (.int .i64 t991)).setCell ⟨gb986, 1, none⟩ (.bool t992)).setCell ⟨gb986, 2, none⟩ (.int .u64 t993)).setCell ⟨gb986, 3, none⟩ (.int .i64 t994)).heap[gb986]? = some (.cells #[.int .i64 t991, .bool t992, .int .u64 t993, .int .i64 t994] 24 (0, 0))) := ⟨by refine kb_ ?_; refine bp_ #[.int .i64 t991, .bool t992, .int .u64 t993, .int .i64 a1_3] 3 ?_; refine bp_ #[.int .i64 t991, .bool t992, .int .u64 a1_2, .int .i64 a1_3] 2 ?_; refine bp_ #[.int .i64 t991, .bool a1_1, .int .u64 a1_2, .int .i64 a1_3] 1 ?_; refine bp_ #[.int .i64 a1_0, .bool a1_1, .int .u64 a1_2, .int .i64 a1_3] 0 ?_; refine bf_ NB986_985 ?_; refine bf_ NB986_985 ?_; refine bf_ NB986_985 ?_; refine bf_ NB986_985 ?_; exact BK986.out⟩
     have n2_ : Aside0 (Below w.heap.size w ((((((((w72.setCell ⟨gb985, 0, none⟩ (.int .i64 t987)).setCell ⟨gb985, 1, none⟩ (.bool t988)).setCell ⟨gb985, 2, none⟩ (.int .u64 t989)).setCell ⟨gb985, 3, none⟩ (.int .i64 t990)).setCell ⟨gb986, 0, none⟩ (.int .i64 t991)).setCell ⟨gb986, 1, none⟩ (.bool t992)).setCell ⟨gb986, 2, none⟩ (.int .u64 t993)).setCell ⟨gb986, 3, none⟩ (.int .i64 t994))) := ⟨bw_ HB.out⟩
     (try clear BK985)
     (try clear BK986)
     (try clear HB)
     generalize ((((((((w72.setCell ⟨gb985, 0, none⟩ (.int .i64 t987)).setCell ⟨gb985, 1, none⟩ (.bool t988)).setCell ⟨gb985, 2, none⟩ (.int .u64 t989)).setCell ⟨gb985, 3, none⟩ (.int .i64 t990)).setCell ⟨gb986, 0, none⟩ (.int .i64 t991)).setCell ⟨gb986, 1, none⟩ (.bool t992)).setCell ⟨gb986, 2, none⟩ (.int .u64 t993)).setCell ⟨gb986, 3, none⟩ (.int .i64 t994)) = w81 at n0_ n1_ n2_ ⊢
     have BK985 := n0_
     have BK986 := n1_
     have HB := n2_
     clear n0_ n1_ n2_
     have n0_ := Aside0.mk (blk_drew BK985.out)
     have n1_ := Aside0.mk (blk_drew BK986.out)
     have n2_ := Aside0.mk (below_drew1 HB.out)
     clear BK985
     clear BK986
     clear HB
     have BK985 := n0_
     have BK986 := n1_
     have HB := n2_
     clear n0_ n1_ n2_
     refine start_ (n := 6) (S := fun w' => w'.cell? ⟨gb985, 0, none⟩ = some (.int .i64 t987) ∧ w'.cell? ⟨gb985, 1, none⟩ = some (.bool t988) ∧ w'.cell? ⟨gb985, 2, none⟩ = some (.int .u64 t989) ∧ w'.cell? ⟨gb985, 3, none⟩ = some (.int .i64 t990) ∧ w'.cell? ⟨gb986, 0, none⟩ = some (.int .i64 t991) ∧ w'.cell? ⟨gb986, 1, none⟩ = some (.bool t992) ∧ w'.cell? ⟨gb986, 2, none⟩ = some (.int .u64 t993) ∧ w'.cell? ⟨gb986, 3, none⟩ = some (.int .i64 t994)) (ds := []) #[false, false, false, false, false, false] (by kernel_rfl) rfl rfl ⟨(blk_cell BK985.out 0).trans rfl, (blk_cell BK985.out 1).trans rfl, (blk_cell BK985.out 2).trans rfl, (blk_cell BK985.out 3).trans rfl, (blk_cell BK986.out 0).trans rfl, (blk_cell BK986.out 1).trans rfl, (blk_cell BK986.out 2).trans rfl, (blk_cell BK986.out 3).trans rfl⟩ (fun hHeld => ?_)
     generalize w81.drew = w82 at BK985 BK986 HB hHeld ⊢
     refine take_ (i := 0) (N := some 11) (v := ?_) (a' := ?_) #[true, false, false, false, false, false] rfl rfl (by kernel_rfl) (fun _ _ _ h => h) (Or.inl ⟨by rfl, ?_⟩) hHeld ?_ ?_
     rotate_left
     ·rintro w' ⟨s0, s1, s2, s3, s4, s5, s6, s7⟩
      go_simp
      with_reducible rfl
     rotate_left
     ·exact pt_
     refine take_ (i := 2) (N := some 13) (v := ?_) (a' := ?_) #[true, false, true, false, false, false] rfl rfl (by kernel_rfl) (fun _ _ _ h => h) (Or.inl ⟨by rfl, ?_⟩) hHeld ?_ ?_
     rotate_left
     ·rintro w' ⟨s0, s1, s2, s3, s4, s5, s6, s7⟩
      go_simp
      with_reducible rfl
     rotate_left
     ·exact pt_
     refine one_ (i := 1) (N := some 12) #[true, true, true, false, false, false] rfl rfl (by kernel_rfl) (by decide) (fun K hK => ?_)
     refine gs_ Try.func27 #[.agg #[.int .i64 t987, .bool t988, .int .u64 t989, .int .i64 t990]] ?_
     with_reducible refine (num_Sign.calls t987 t988 t989 t990 t995 _ A5.out).mono ?_
     rintro e w83 ⟨rfl, hb⟩
     refine ⟨_, rfl, ?_⟩
     have n0_ := kq_ BK985 hb
     have n1_ := kq_ BK986 hb
     have n2_ := bq_ HB hb
     clear BK985
     clear BK986
     clear HB
     have BK985 := n0_
     have BK986 := n1_
     have HB := n2_
     clear n0_ n1_ n2_
     (try clear hb)
     (try clear hb2)
     (try clear hk)
     (try clear hi)
     refine hK.out _ _ ⟨(blk_cell BK985.out 0).trans rfl, (blk_cell BK985.out 1).trans rfl, (blk_cell BK985.out 2).trans rfl, (blk_cell BK985.out 3).trans rfl, (blk_cell BK986.out 0).trans rfl, (blk_cell BK986.out 1).trans rfl, (blk_cell BK986.out 2).trans rfl, (blk_cell BK986.out 3).trans rfl⟩ (fun hHeld => ?_)
     clear hK K
     refine norm_ (a' := ?_) ?_ ?_
     rotate_left
     ·show Act.put _ (some 12) _ = _
      exact pt_
     refine one_ (i := 3) (N := some 14) #[true, true, true, true, false, false] rfl rfl (by kernel_rfl) (by decide) (fun K hK => ?_)
     refine gs_ Try.func27 #[.agg #[.int .i64 t991, .bool t992, .int .u64 t993, .int .i64 t994]] ?_
     with_reducible refine (num_Sign.calls t991 t992 t993 t994 t996 _ A6.out).mono ?_
     rintro e w84 ⟨rfl, hb⟩
     refine ⟨_, rfl, ?_⟩
     have n0_ := kq_ BK985 hb
     have n1_ := kq_ BK986 hb
     have n2_ := bq_ HB hb
     clear BK985
     clear BK986
     clear HB
     have BK985 := n0_
     have BK986 := n1_
     have HB := n2_
     clear n0_ n1_ n2_
     (try clear hb)
     (try clear hb2)
     (try clear hk)
     (try clear hi)
     refine hK.out _ _ ⟨(blk_cell BK985.out 0).trans rfl, (blk_cell BK985.out 1).trans rfl, (blk_cell BK985.out 2).trans rfl, (blk_cell BK985.out 3).trans rfl, (blk_cell BK986.out 0).trans rfl, (blk_cell BK986.out 1).trans rfl, (blk_cell BK986.out 2).trans rfl, (blk_cell BK986.out 3).trans rfl⟩ (fun hHeld => ?_)
     clear hK K
     refine norm_ (a' := ?_) ?_ ?_
     rotate_left
     ·show Act.put _ (some 14) _ = _
      exact pt_
     refine pure_ (i := 4) (N := some 5) (v := ?_) (a' := ?_) #[true, true, true, true, true, false] rfl rfl (by kernel_rfl) (fun _ _ _ h => h) (Or.inl ⟨by rfl, ?_⟩) ?_ ?_
     rotate_left
     ·intro w'
      go_simp
      with_reducible rfl
     rotate_left
     ·exact pt_
     refine pure_ (i := 5) (N := some 6) (v := ?_) (a' := ?_) #[true, true, true, true, true, true] rfl rfl (by kernel_rfl) (fun _ _ _ h => h) (Or.inl ⟨by rfl, ?_⟩) ?_ ?_
     rotate_left
     ·intro w'
      go_simp
      with_reducible rfl
     rotate_left
     ·exact pt_
     refine done_ (by kernel_rfl) ?_
     have hnb85 := NB985_986.out
     have hnc85 := NB986_985.out
     obtain ⟨hcz86_0, hcz86_1, hcz86_2, hcz86_3, hfz86_0, hfz86_1, hfz86_2, hfz86_3⟩ := c4_ BK985
     obtain ⟨hcz87_0, hcz87_1, hcz87_2, hcz87_3, hfz87_0, hfz87_1, hfz87_2, hfz87_3⟩ := c4_ BK986
     try go_wp2_with (first | ((with_reducible refine gate_callee (f := 49) rfl ?_); refine gl_ (some 26) Try.func49 #[.agg #[.int .i64 t987, .bool t988, .int .u64 t989, .int .i64 t990], .agg #[.int .i64 t991, .bool t992, .int .u64 t993, .int .i64 t994]] ?_; (with_reducible refine (num_farther.calls t987 t988 t989 t990 t991 t992 t993 t994 false _ A43.out).mono ?_); rintro e w88 ⟨rfl, hb⟩; refine ⟨_, rfl, ?_⟩; have n0_ := kq_ BK985 hb; have n1_ := kq_ BK986 hb; have n2_ := bq_ HB hb; clear BK985; clear BK986; clear HB; have BK985 := n0_; have BK986 := n1_; have HB := n2_; clear n0_ n1_ n2_; (try clear hb); (try clear hb2); (try clear hk); (try clear hi); obtain ⟨hcz89_0, hcz89_1, hcz89_2, hcz89_3, hfz89_0, hfz89_1, hfz89_2, hfz89_3⟩ := c4_ BK986; obtain ⟨hcz90_0, hcz90_1, hcz90_2, hcz90_3, hfz90_0, hfz90_1, hfz90_2, hfz90_3⟩ := c4_ BK985) | ((with_reducible refine gate_callee (f := 49) rfl ?_); refine gl_ (some 31) Try.func49 #[.agg #[.int .i64 t991, .bool t992, .int .u64 t993, .int .i64 t994], .agg #[.int .i64 t987, .bool t988, .int .u64 t989, .int .i64 t990]] ?_; (with_reducible refine (num_farther.calls t991 t992 t993 t994 t987 t988 t989 t990 true _ A66.out).mono ?_); rintro e w91 ⟨rfl, hb⟩; refine ⟨_, rfl, ?_⟩; have n0_ := kq_ BK985 hb; have n1_ := kq_ BK986 hb; have n2_ := bq_ HB hb; clear BK985; clear BK986; clear HB; have BK985 := n0_; have BK986 := n1_; have HB := n2_; clear n0_ n1_ n2_; (try clear hb); (try clear hb2); (try clear hk); (try clear hi)))
     go_ret
     exact ⟨rf_, bw_ HB.out⟩
    ·replace c67 := Bool.eq_false_iff.mpr c67
     subst c67
     have H1 : (some 0) = some r := by rw [if_neg (show ¬ (false = true) by decide)] at H; exact H
     clear H
     have H := H1
     clear H1
     obtain rfl := Option.some.inj H
     go_enter Try.func26, Try.ntmps26
     try go_wp2_with (first | ((with_reducible refine gate_dst (N := 2) rfl ?_); refine bx_ 2 #[.int .i64 a0_0, .bool a0_1, .int .u64 a0_2, .int .i64 a0_3] 24 ?_; intro gb985 hg w92 hbox hb; have n0_ := bq_ HB hb; have n1_ := Aside0.mk (hbox); have n2_ := ge_ hg HB; have n3_ := ge_ hg HB; clear HB; have HB := n0_; have BK985 := n1_; have GW985 := n2_; have GE985 := n3_; clear n0_ n1_ n2_ n3_; clear hb hbox hg) | ((with_reducible refine gate_dst (N := 3) rfl ?_); refine bx_ 3 #[.int .i64 a1_0, .bool a1_1, .int .u64 a1_2, .int .i64 a1_3] 24 ?_; intro gb986 hg w93 hbox hb; have n0_ := kq_ BK985 hb; have n1_ := bq_ HB hb; have n2_ := Aside0.mk (hbox); have n3_ := ge_ hg HB; have n4_ := ge_ hg HB; have n5_ := nb_ hg BK985; have n6_ := nc_ hg BK985; clear BK985; clear HB; have BK985 := n0_; have HB := n1_; have BK986 := n2_; have GW986 := n3_; have GE986 := n4_; have NB985_986 := n5_; have NB986_985 := n6_; clear n0_ n1_ n2_ n3_ n4_ n5_ n6_; clear hb hbox hg))
     have n0_ := Aside0.mk (blk_drew BK985.out)
     have n1_ := Aside0.mk (blk_drew BK986.out)
     have n2_ := Aside0.mk (below_drew1 HB.out)
     clear BK985
     clear BK986
     clear HB
     have BK985 := n0_
     have BK986 := n1_
     have HB := n2_
     clear n0_ n1_ n2_
     refine start_ (n := 6) (S := fun w' => w'.cell? ⟨gb985, 0, none⟩ = some (.int .i64 a0_0) ∧ w'.cell? ⟨gb985, 1, none⟩ = some (.bool a0_1) ∧ w'.cell? ⟨gb985, 2, none⟩ = some (.int .u64 a0_2) ∧ w'.cell? ⟨gb985, 3, none⟩ = some (.int .i64 a0_3) ∧ w'.cell? ⟨gb986, 0, none⟩ = some (.int .i64 a1_0) ∧ w'.cell? ⟨gb986, 1, none⟩ = some (.bool a1_1) ∧ w'.cell? ⟨gb986, 2, none⟩ = some (.int .u64 a1_2) ∧ w'.cell? ⟨gb986, 3, none⟩ = some (.int .i64 a1_3)) (ds := [4, 5]) #[false, false, false, false, false, false] (by kernel_rfl) rfl rfl ⟨(blk_cell BK985.out 0).trans rfl, (blk_cell BK985.out 1).trans rfl, (blk_cell BK985.out 2).trans rfl, (blk_cell BK985.out 3).trans rfl, (blk_cell BK986.out 0).trans rfl, (blk_cell BK986.out 1).trans rfl, (blk_cell BK986.out 2).trans rfl, (blk_cell BK986.out 3).trans rfl⟩ (fun hHeld => ?_)
     generalize w93.drew = w94 at BK985 BK986 HB hHeld ⊢
     refine take_ (i := 0) (N := some 7) (v := ?_) (a' := ?_) #[true, false, false, false, false, false] rfl rfl (by kernel_rfl) (fun _ _ _ h => h) (Or.inl ⟨by rfl, ?_⟩) hHeld ?_ ?_
     rotate_left
     ·rintro w' ⟨s0, s1, s2, s3, s4, s5, s6, s7⟩
      go_simp
      with_reducible rfl
     rotate_left
     ·exact pt_
     refine take_ (i := 2) (N := some 9) (v := ?_) (a' := ?_) #[true, false, true, false, false, false] rfl rfl (by kernel_rfl) (fun _ _ _ h => h) (Or.inl ⟨by rfl, ?_⟩) hHeld ?_ ?_
     rotate_left
     ·rintro w' ⟨s0, s1, s2, s3, s4, s5, s6, s7⟩
      go_simp
      with_reducible rfl
     rotate_left
     ·exact pt_
     refine one_ (i := 1) (N := some 8) #[true, true, true, false, false, false] rfl rfl (by kernel_rfl) (by decide) (fun K hK => ?_)
     refine gs_ Try.func34 #[.agg #[.int .i64 a0_0, .bool a0_1, .int .u64 a0_2, .int .i64 a0_3]] ?_
     with_reducible refine (num_fair.calls a0_0 a0_1 a0_2 a0_3 t987 t988 t989 t990 _ A3.out).mono ?_
     rintro e w95 ⟨rfl, hb⟩
     refine ⟨_, rfl, ?_⟩
     have n0_ := kq_ BK985 hb
     have n1_ := kq_ BK986 hb
     have n2_ := bq_ HB hb
     clear BK985
     clear BK986
     clear HB
     have BK985 := n0_
     have BK986 := n1_
     have HB := n2_
     clear n0_ n1_ n2_
     (try clear hb)
     (try clear hb2)
     (try clear hk)
     (try clear hi)
     refine hK.out _ _ ⟨(blk_cell BK985.out 0).trans rfl, (blk_cell BK985.out 1).trans rfl, (blk_cell BK985.out 2).trans rfl, (blk_cell BK985.out 3).trans rfl, (blk_cell BK986.out 0).trans rfl, (blk_cell BK986.out 1).trans rfl, (blk_cell BK986.out 2).trans rfl, (blk_cell BK986.out 3).trans rfl⟩ (fun hHeld => ?_)
     clear hK K
     refine norm_ (a' := ?_) ?_ ?_
     rotate_left
     ·show Act.put _ (some 8) _ = _
      exact pt_
     refine one_ (i := 3) (N := some 10) #[true, true, true, true, false, false] rfl rfl (by kernel_rfl) (by decide) (fun K hK => ?_)
     refine gs_ Try.func34 #[.agg #[.int .i64 a1_0, .bool a1_1, .int .u64 a1_2, .int .i64 a1_3]] ?_
     with_reducible refine (num_fair.calls a1_0 a1_1 a1_2 a1_3 t991 t992 t993 t994 _ A4.out).mono ?_
     rintro e w96 ⟨rfl, hb⟩
     refine ⟨_, rfl, ?_⟩
     have n0_ := kq_ BK985 hb
     have n1_ := kq_ BK986 hb
     have n2_ := bq_ HB hb
     clear BK985
     clear BK986
     clear HB
     have BK985 := n0_
     have BK986 := n1_
     have HB := n2_
     clear n0_ n1_ n2_
     (try clear hb)
     (try clear hb2)
     (try clear hk)
     (try clear hi)
     refine hK.out _ _ ⟨(blk_cell BK985.out 0).trans rfl, (blk_cell BK985.out 1).trans rfl, (blk_cell BK985.out 2).trans rfl, (blk_cell BK985.out 3).trans rfl, (blk_cell BK986.out 0).trans rfl, (blk_cell BK986.out 1).trans rfl, (blk_cell BK986.out 2).trans rfl, (blk_cell BK986.out 3).trans rfl⟩ (fun hHeld => ?_)
     clear hK K
     refine norm_ (a' := ?_) ?_ ?_
     rotate_left
     ·show Act.put _ (some 10) _ = _
      exact pt_
     refine last_ (i := 4) (N := none) #[true, true, true, true, true, false] rfl rfl (by kernel_rfl) (by decide) (fun K hK => ?_)
     have hs97 : w96.cell? ⟨gb985, 0, none⟩ = some (.int .i64 a0_0) := (blk_cell BK985.out 0).trans rfl
     have hfs97 := fz_ BK985 0
     have hns97_1 := NB986_985.out
     have hms97_1 := NB985_986.out
     have hs98 : w96.cell? ⟨gb985, 1, none⟩ = some (.bool a0_1) := (blk_cell BK985.out 1).trans rfl
     have hfs98 := fz_ BK985 1
     have hns98_1 := NB986_985.out
     have hms98_1 := NB985_986.out
     have hs99 : w96.cell? ⟨gb985, 2, none⟩ = some (.int .u64 a0_2) := (blk_cell BK985.out 2).trans rfl
     have hfs99 := fz_ BK985 2
     have hns99_1 := NB986_985.out
     have hms99_1 := NB985_986.out
     have hs100 : w96.cell? ⟨gb985, 3, none⟩ = some (.int .i64 a0_3) := (blk_cell BK985.out 3).trans rfl
     have hfs100 := fz_ BK985 3
     have hns100_1 := NB986_985.out
     have hms100_1 := NB985_986.out
     refine skip_ (w1 := ?_) (by rfl) rfl ?_ ?_
     rotate_left
     ·go_simp
      rfl
     refine hK.out _ _ ?_
     clear hK K
     refine last_ (i := 5) (N := none) #[true, true, true, true, true, true] rfl rfl (by kernel_rfl) (by decide) (fun K hK => ?_)
     have hs101 : w96.cell? ⟨gb986, 0, none⟩ = some (.int .i64 a1_0) := (blk_cell BK986.out 0).trans rfl
     have hfs101 := fz_ BK986 0
     have hns101_0 := NB985_986.out
     have hms101_0 := NB986_985.out
     have hs102 : w96.cell? ⟨gb986, 1, none⟩ = some (.bool a1_1) := (blk_cell BK986.out 1).trans rfl
     have hfs102 := fz_ BK986 1
     have hns102_0 := NB985_986.out
     have hms102_0 := NB986_985.out
     have hs103 : w96.cell? ⟨gb986, 2, none⟩ = some (.int .u64 a1_2) := (blk_cell BK986.out 2).trans rfl
     have hfs103 := fz_ BK986 2
     have hns103_0 := NB985_986.out
     have hms103_0 := NB986_985.out
     have hs104 : w96.cell? ⟨gb986, 3, none⟩ = some (.int .i64 a1_3) := (blk_cell BK986.out 3).trans rfl
     have hfs104 := fz_ BK986 3
     have hns104_0 := NB985_986.out
     have hms104_0 := NB986_985.out
     refine skip_ (w1 := ?_) (by rfl) rfl ?_ ?_
     rotate_left
     ·go_simp
      rfl
     refine hK.out _ _ ?_
     clear hK K
     refine done_ (by kernel_rfl) ?_
     try go_wp2
     have n0_ : Aside0 (((((((((w96.setCell ⟨gb985, 0, none⟩ (.int .i64 t987)).setCell ⟨gb985, 1, none⟩ (.bool t988)).setCell ⟨gb985, 2, none⟩ (.int .u64 t989)).setCell ⟨gb985, 3, none⟩ (.int .i64 t990)).setCell ⟨gb986, 0, none⟩ (.int .i64 t991)).setCell ⟨gb986, 1, none⟩ (.bool t992)).setCell ⟨gb986, 2, none⟩ (.int .u64 t993)).setCell ⟨gb986, 3, none⟩ (.int .i64 t994)).heap[gb985]? = some (.cells #[.int .i64 t987, .bool t988, .int .u64 t989, .int .i64 t990] 24 (0, 0))) := ⟨by refine kb_ ?_; refine bf_ NB985_986 ?_; refine bf_ NB985_986 ?_; refine bf_ NB985_986 ?_; refine bf_ NB985_986 ?_; refine bp_ #[.int .i64 t987, .bool t988, .int .u64 t989, .int .i64 a0_3] 3 ?_; refine bp_ #[.int .i64 t987, .bool t988, .int .u64 a0_2, .int .i64 a0_3] 2 ?_; refine bp_ #[.int .i64 t987, .bool a0_1, .int .u64 a0_2, .int .i64 a0_3] 1 ?_; refine bp_ #[.int .i64 a0_0, .bool a0_1, .int .u64 a0_2, .int .i64 a0_3] 0 ?_; exact BK985.out⟩
     have n1_ : Aside0 (((((((((w96.setCell ⟨gb985, 0, none⟩ (.int .i64 t987)).setCell ⟨gb985, 1, none⟩ (.bool t988)).setCell ⟨gb985, 2, none⟩ (.int .u64 t989)).setCell ⟨gb985, 3, none⟩ (.int .i64 t990)).setCell ⟨gb986, 0, none⟩ (.int .i64 t991)).setCell ⟨gb986, 1, none⟩ (.bool t992)).setCell ⟨gb986, 2, none⟩ (.int .u64 t993)).setCell ⟨gb986, 3, none⟩ (.int .i64 t994)).heap[gb986]? = some (.cells #[.int .i64 t991, .bool t992, .int .u64 t993, .int .i64 t994] 24 (0, 0))) := ⟨by refine kb_ ?_; refine bp_ #[.int .i64 t991, .bool t992, .int .u64 t993, .int .i64 a1_3] 3 ?_; refine bp_ #[.int .i64 t991, .bool t992, .int .u64 a1_2, .int .i64 a1_3] 2 ?_; refine bp_ #[.int .i64 t991, .bool a1_1, .int .u64 a1_2, .int .i64 a1_3] 1 ?_; refine bp_ #[.int .i64 a1_0, .bool a1_1, .int .u64 a1_2, .int .i64 a1_3] 0 ?_; refine bf_ NB986_985 ?_; refine bf_ NB986_985 ?_; refine bf_ NB986_985 ?_; refine bf_ NB986_985 ?_; exact BK986.out⟩
     have n2_ : Aside0 (Below w.heap.size w ((((((((w96.setCell ⟨gb985, 0, none⟩ (.int .i64 t987)).setCell ⟨gb985, 1, none⟩ (.bool t988)).setCell ⟨gb985, 2, none⟩ (.int .u64 t989)).setCell ⟨gb985, 3, none⟩ (.int .i64 t990)).setCell ⟨gb986, 0, none⟩ (.int .i64 t991)).setCell ⟨gb986, 1, none⟩ (.bool t992)).setCell ⟨gb986, 2, none⟩ (.int .u64 t993)).setCell ⟨gb986, 3, none⟩ (.int .i64 t994))) := ⟨bw_ HB.out⟩
     (try clear BK985)
     (try clear BK986)
     (try clear HB)
     generalize ((((((((w96.setCell ⟨gb985, 0, none⟩ (.int .i64 t987)).setCell ⟨gb985, 1, none⟩ (.bool t988)).setCell ⟨gb985, 2, none⟩ (.int .u64 t989)).setCell ⟨gb985, 3, none⟩ (.int .i64 t990)).setCell ⟨gb986, 0, none⟩ (.int .i64 t991)).setCell ⟨gb986, 1, none⟩ (.bool t992)).setCell ⟨gb986, 2, none⟩ (.int .u64 t993)).setCell ⟨gb986, 3, none⟩ (.int .i64 t994)) = w105 at n0_ n1_ n2_ ⊢
     have BK985 := n0_
     have BK986 := n1_
     have HB := n2_
     clear n0_ n1_ n2_
     have n0_ := Aside0.mk (blk_drew BK985.out)
     have n1_ := Aside0.mk (blk_drew BK986.out)
     have n2_ := Aside0.mk (below_drew1 HB.out)
     clear BK985
     clear BK986
     clear HB
     have BK985 := n0_
     have BK986 := n1_
     have HB := n2_
     clear n0_ n1_ n2_
     refine start_ (n := 6) (S := fun w' => w'.cell? ⟨gb985, 0, none⟩ = some (.int .i64 t987) ∧ w'.cell? ⟨gb985, 1, none⟩ = some (.bool t988) ∧ w'.cell? ⟨gb985, 2, none⟩ = some (.int .u64 t989) ∧ w'.cell? ⟨gb985, 3, none⟩ = some (.int .i64 t990) ∧ w'.cell? ⟨gb986, 0, none⟩ = some (.int .i64 t991) ∧ w'.cell? ⟨gb986, 1, none⟩ = some (.bool t992) ∧ w'.cell? ⟨gb986, 2, none⟩ = some (.int .u64 t993) ∧ w'.cell? ⟨gb986, 3, none⟩ = some (.int .i64 t994)) (ds := []) #[false, false, false, false, false, false] (by kernel_rfl) rfl rfl ⟨(blk_cell BK985.out 0).trans rfl, (blk_cell BK985.out 1).trans rfl, (blk_cell BK985.out 2).trans rfl, (blk_cell BK985.out 3).trans rfl, (blk_cell BK986.out 0).trans rfl, (blk_cell BK986.out 1).trans rfl, (blk_cell BK986.out 2).trans rfl, (blk_cell BK986.out 3).trans rfl⟩ (fun hHeld => ?_)
     generalize w105.drew = w106 at BK985 BK986 HB hHeld ⊢
     refine take_ (i := 0) (N := some 11) (v := ?_) (a' := ?_) #[true, false, false, false, false, false] rfl rfl (by kernel_rfl) (fun _ _ _ h => h) (Or.inl ⟨by rfl, ?_⟩) hHeld ?_ ?_
     rotate_left
     ·rintro w' ⟨s0, s1, s2, s3, s4, s5, s6, s7⟩
      go_simp
      with_reducible rfl
     rotate_left
     ·exact pt_
     refine take_ (i := 2) (N := some 13) (v := ?_) (a' := ?_) #[true, false, true, false, false, false] rfl rfl (by kernel_rfl) (fun _ _ _ h => h) (Or.inl ⟨by rfl, ?_⟩) hHeld ?_ ?_
     rotate_left
     ·rintro w' ⟨s0, s1, s2, s3, s4, s5, s6, s7⟩
      go_simp
      with_reducible rfl
     rotate_left
     ·exact pt_
     refine one_ (i := 1) (N := some 12) #[true, true, true, false, false, false] rfl rfl (by kernel_rfl) (by decide) (fun K hK => ?_)
     refine gs_ Try.func27 #[.agg #[.int .i64 t987, .bool t988, .int .u64 t989, .int .i64 t990]] ?_
     with_reducible refine (num_Sign.calls t987 t988 t989 t990 t995 _ A5.out).mono ?_
     rintro e w107 ⟨rfl, hb⟩
     refine ⟨_, rfl, ?_⟩
     have n0_ := kq_ BK985 hb
     have n1_ := kq_ BK986 hb
     have n2_ := bq_ HB hb
     clear BK985
     clear BK986
     clear HB
     have BK985 := n0_
     have BK986 := n1_
     have HB := n2_
     clear n0_ n1_ n2_
     (try clear hb)
     (try clear hb2)
     (try clear hk)
     (try clear hi)
     refine hK.out _ _ ⟨(blk_cell BK985.out 0).trans rfl, (blk_cell BK985.out 1).trans rfl, (blk_cell BK985.out 2).trans rfl, (blk_cell BK985.out 3).trans rfl, (blk_cell BK986.out 0).trans rfl, (blk_cell BK986.out 1).trans rfl, (blk_cell BK986.out 2).trans rfl, (blk_cell BK986.out 3).trans rfl⟩ (fun hHeld => ?_)
     clear hK K
     refine norm_ (a' := ?_) ?_ ?_
     rotate_left
     ·show Act.put _ (some 12) _ = _
      exact pt_
     refine one_ (i := 3) (N := some 14) #[true, true, true, true, false, false] rfl rfl (by kernel_rfl) (by decide) (fun K hK => ?_)
     refine gs_ Try.func27 #[.agg #[.int .i64 t991, .bool t992, .int .u64 t993, .int .i64 t994]] ?_
     with_reducible refine (num_Sign.calls t991 t992 t993 t994 t996 _ A6.out).mono ?_
     rintro e w108 ⟨rfl, hb⟩
     refine ⟨_, rfl, ?_⟩
     have n0_ := kq_ BK985 hb
     have n1_ := kq_ BK986 hb
     have n2_ := bq_ HB hb
     clear BK985
     clear BK986
     clear HB
     have BK985 := n0_
     have BK986 := n1_
     have HB := n2_
     clear n0_ n1_ n2_
     (try clear hb)
     (try clear hb2)
     (try clear hk)
     (try clear hi)
     refine hK.out _ _ ⟨(blk_cell BK985.out 0).trans rfl, (blk_cell BK985.out 1).trans rfl, (blk_cell BK985.out 2).trans rfl, (blk_cell BK985.out 3).trans rfl, (blk_cell BK986.out 0).trans rfl, (blk_cell BK986.out 1).trans rfl, (blk_cell BK986.out 2).trans rfl, (blk_cell BK986.out 3).trans rfl⟩ (fun hHeld => ?_)
     clear hK K
     refine norm_ (a' := ?_) ?_ ?_
     rotate_left
     ·show Act.put _ (some 14) _ = _
      exact pt_
     refine pure_ (i := 4) (N := some 5) (v := ?_) (a' := ?_) #[true, true, true, true, true, false] rfl rfl (by kernel_rfl) (fun _ _ _ h => h) (Or.inl ⟨by rfl, ?_⟩) ?_ ?_
     rotate_left
     ·intro w'
      go_simp
      with_reducible rfl
     rotate_left
     ·exact pt_
     refine pure_ (i := 5) (N := some 6) (v := ?_) (a' := ?_) #[true, true, true, true, true, true] rfl rfl (by kernel_rfl) (fun _ _ _ h => h) (Or.inl ⟨by rfl, ?_⟩) ?_ ?_
     rotate_left
     ·intro w'
      go_simp
      with_reducible rfl
     rotate_left
     ·exact pt_
     refine done_ (by kernel_rfl) ?_
     have hnb109 := NB985_986.out
     have hnc109 := NB986_985.out
     obtain ⟨hcz110_0, hcz110_1, hcz110_2, hcz110_3, hfz110_0, hfz110_1, hfz110_2, hfz110_3⟩ := c4_ BK985
     obtain ⟨hcz111_0, hcz111_1, hcz111_2, hcz111_3, hfz111_0, hfz111_1, hfz111_2, hfz111_3⟩ := c4_ BK986
     try go_wp2_with (first | ((with_reducible refine gate_callee (f := 49) rfl ?_); refine gl_ (some 26) Try.func49 #[.agg #[.int .i64 t987, .bool t988, .int .u64 t989, .int .i64 t990], .agg #[.int .i64 t991, .bool t992, .int .u64 t993, .int .i64 t994]] ?_; (with_reducible refine (num_farther.calls t987 t988 t989 t990 t991 t992 t993 t994 false _ A43.out).mono ?_); rintro e w112 ⟨rfl, hb⟩; refine ⟨_, rfl, ?_⟩; have n0_ := kq_ BK985 hb; have n1_ := kq_ BK986 hb; have n2_ := bq_ HB hb; clear BK985; clear BK986; clear HB; have BK985 := n0_; have BK986 := n1_; have HB := n2_; clear n0_ n1_ n2_; (try clear hb); (try clear hb2); (try clear hk); (try clear hi); obtain ⟨hcz113_0, hcz113_1, hcz113_2, hcz113_3, hfz113_0, hfz113_1, hfz113_2, hfz113_3⟩ := c4_ BK986; obtain ⟨hcz114_0, hcz114_1, hcz114_2, hcz114_3, hfz114_0, hfz114_1, hfz114_2, hfz114_3⟩ := c4_ BK985) | ((with_reducible refine gate_callee (f := 49) rfl ?_); refine gl_ (some 31) Try.func49 #[.agg #[.int .i64 t991, .bool t992, .int .u64 t993, .int .i64 t994], .agg #[.int .i64 t987, .bool t988, .int .u64 t989, .int .i64 t990]] ?_; (with_reducible refine (num_farther.calls t991 t992 t993 t994 t987 t988 t989 t990 false _ A66.out).mono ?_); rintro e w115 ⟨rfl, hb⟩; refine ⟨_, rfl, ?_⟩; have n0_ := kq_ BK985 hb; have n1_ := kq_ BK986 hb; have n2_ := bq_ HB hb; clear BK985; clear BK986; clear HB; have BK985 := n0_; have BK986 := n1_; have HB := n2_; clear n0_ n1_ n2_; (try clear hb); (try clear hb2); (try clear hk); (try clear hi)))
     go_ret
     exact ⟨rf_, bw_ HB.out⟩

end Go.Proofs.Ythlhogcnfaiphaa.PA
