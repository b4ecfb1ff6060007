-- Laid by this work's own program; Lean checks it.
import Derived.Test.YthlhogcnfaiphaaPAx0
import Derived.Test.YthlhogcnfaiphaaPAx2
import Derived.Test.YthlhogcnfaiphaaPAx5
import Derived.Test.YthlhogcnfaiphaaPAx6
import Derived.Test.YthlhogcnfaiphaaPAx19
import Derived.Test.YthlhogcnfaiphaaPAx20
import Derived.Test.YthlhogcnfaiphaaPAx25
namespace Go.Proofs.Ythlhogcnfaiphaa.PA
open Go.RowKit Go.Proofs.YthlhogcnfaiphaaW.PrintWords Go.Proofs.YthlhogcnfaiphaaW.PrintLast Go.Proofs.YthlhogcnfaiphaaW.PrintMore
attribute [local go_sem] max2_int min2_int max_two min_two max_three min_three max_four min_four   -- for this text's walks alone
set_option linter.unusedVariables false
set_option linter.unusedSimpArgs false

attribute [local go_sem ↓ high] isSome_set_
/-! ### peloruslaw06_ArithGrows: function 8 -/
theorem peloruslaw06_ArithGrows.tab4 : rtab .any (opsOf Try.f8 4) = peloruslaw06_ArithGrows.T4 := by kernel_rfl
theorem peloruslaw06_ArithGrows.bits4 : waitsOk peloruslaw06_ArithGrows.T4.2 peloruslaw06_ArithGrows.B4 = true := by kernel_rfl
def peloruslaw06_ArithGrows.T6 : Bool × List (List Nat × List Nat) := (true, [([], []), ([0], [0]), ([1], [1]), ([1], [1]), ([1], [1]), ([2, 3, 4, 1, 1], [1, 2, 3, 4]), ([1], [1]), ([1], [1]), ([1], [1]), ([6, 7, 8, 5, 1], [1, 6, 7, 8]), ([5, 9, 9, 1], [1, 5, 9]), ([10, 1], [1, 10]), ([1, 11], [1, 11]), ([12, 10, 0, 1, 2, 3, 4, 5, 6, 7, 8, 9, 10, 11, 12], [12])])
def peloruslaw06_ArithGrows.B6 : List Nat := [0, 1, 3, 3, 3, 31, 3, 3, 3, 511, 1023, 2047, 4095, 8191]
theorem peloruslaw06_ArithGrows.tab6 : rtab .any (opsOf Try.f8 6) = peloruslaw06_ArithGrows.T6 := by kernel_rfl
theorem peloruslaw06_ArithGrows.bits6 : waitsOk peloruslaw06_ArithGrows.T6.2 peloruslaw06_ArithGrows.B6 = true := by kernel_rfl
def peloruslaw06_ArithGrows.T7 : Bool × List (List Nat × List Nat) := (true, [([], []), ([0], [0]), ([1], [1]), ([1], [1]), ([1], [1]), ([2, 3, 4, 1, 1], [1, 2, 3, 4]), ([1], [1]), ([1], [1]), ([1], [1]), ([6, 7, 8, 5, 1], [1, 6, 7, 8]), ([5, 9, 9, 1], [1, 5, 9]), ([10, 1], [1, 10]), ([1, 11], [1, 11]), ([12, 10, 0, 1, 2, 3, 4, 5, 6, 7, 8, 9, 10, 11, 12], [12])])
def peloruslaw06_ArithGrows.B7 : List Nat := [0, 1, 3, 3, 3, 31, 3, 3, 3, 511, 1023, 2047, 4095, 8191]
theorem peloruslaw06_ArithGrows.tab7 : rtab .any (opsOf Try.f8 7) = peloruslaw06_ArithGrows.T7 := by kernel_rfl
theorem peloruslaw06_ArithGrows.bits7 : waitsOk peloruslaw06_ArithGrows.T7.2 peloruslaw06_ArithGrows.B7 = true := by kernel_rfl
set_option maxHeartbeats 8000000 in
set_option maxRecDepth 100000 in
theorem peloruslaw06_ArithGrows.calls (k : Nat) (a0_0 : Int) (a0_1 : Bool) (a0_2 : Int) (a0_3 : Int) (a1_0 : Int) (a1_1 : Bool) (a1_2 : Int) (a1_3 : Int) (a2_0 : Int) (a2_1 : Bool) (a2_2 : Int) (a2_3 : Int) (a3 : Bool) (r : Bool) (w : World) (hr_ : r = true) (haw_ : ∀ r, peloruslaw06_awake.f k = some r → r = true) (h : peloruslaw06_ArithGrows.f k a0_0 a0_1 a0_2 a0_3 a1_0 a1_1 a1_2 a1_3 a2_0 a2_1 a2_2 a2_3 a3 = some r) :
  Calls Try.prog 8 #[.agg #[.int .i64 a0_0, .bool a0_1, .int .u64 a0_2, .int .i64 a0_3], .agg #[.int .i64 a1_0, .bool a1_1, .int .u64 a1_2, .int .i64 a1_3], .agg #[.int .i64 a2_0, .bool a2_1, .int .u64 a2_2, .int .i64 a2_3], .bool a3] w fun e w' => e = .returned (.bool r) ∧ Below w.heap.size w w' := by
 have HRT_ := Aside0.mk hr_
 clear hr_
 have HAW_ := Aside0.mk haw_
 clear haw_
 have hu24 := Try.underlying24
 have HB := Aside0.mk (Below.refl w.heap.size w)
 have H : ((peloruslaw06_awake.f k).bind fun t1002 => (if t1002 = true then ((num_Cmp.f a0_0 a0_1 a0_2 a0_3 a1_0 a1_1 a1_2 a1_3).bind fun t1003 => (peloruslaw06_ArithGrows.j0 k a3 t1002 (decide (t1003 > 0)) a0_0 a0_1 a0_2 a0_3 a1_0 a1_1 a1_2 a1_3 a2_0 a2_1 a2_2 a2_3)) else (peloruslaw06_ArithGrows.j0 k a3 t1002 true a0_0 a0_1 a0_2 a0_3 a1_0 a1_1 a1_2 a1_3 a2_0 a2_1 a2_2 a2_3))) = some r := h
 clear h
 replace H := Option.bind_eq_some_iff.mp H
 obtain ⟨t1002, A50, H⟩ := H
 (try dsimp only at H)
 have A5 := Aside0.mk A50
 clear A50
 have HC6 := Aside0.mk H
 clear H
 go_enter Try.func8, Try.ntmps8
 go_upto_region 2 with (first | ((with_reducible refine gate_dst (N := 4) rfl ?_); refine bx_ 4 #[.int .i64 a0_0, .bool a0_1, .int .u64 a0_2, .int .i64 a0_3] 24 ?_; intro gb999 hg w7 hbox hb; have n0_ := bq_ HB hb; have n1_ := Aside0.mk (hbox); have n2_ := ge_ hg HB; have n3_ := ge_ hg HB; clear HB; have HB := n0_; have BK999 := n1_; have GW999 := n2_; have GE999 := n3_; clear n0_ n1_ n2_ n3_; clear hb hbox hg) | ((with_reducible refine gate_dst (N := 5) rfl ?_); refine bx_ 5 #[.int .i64 a1_0, .bool a1_1, .int .u64 a1_2, .int .i64 a1_3] 24 ?_; intro gb1000 hg w8 hbox hb; have n0_ := kq_ BK999 hb; have n1_ := bq_ HB hb; have n2_ := Aside0.mk (hbox); have n3_ := ge_ hg HB; have n4_ := ge_ hg HB; have n5_ := nb_ hg BK999; have n6_ := nc_ hg BK999; clear BK999; clear HB; have BK999 := n0_; have HB := n1_; have BK1000 := n2_; have GW1000 := n3_; have GE1000 := n4_; have NB999_1000 := n5_; have NB1000_999 := n6_; clear n0_ n1_ n2_ n3_ n4_ n5_ n6_; clear hb hbox hg) | ((with_reducible refine gate_dst (N := 6) rfl ?_); refine bx_ 6 #[.int .i64 a2_0, .bool a2_1, .int .u64 a2_2, .int .i64 a2_3] 24 ?_; intro gb1001 hg w9 hbox hb; have n0_ := kq_ BK999 hb; have n1_ := kq_ BK1000 hb; have n2_ := bq_ HB hb; have n3_ := Aside0.mk (hbox); have n4_ := ge_ hg HB; have n5_ := ge_ hg HB; have n6_ := nb_ hg BK999; have n7_ := nc_ hg BK999; have n8_ := nb_ hg BK1000; have n9_ := nc_ hg BK1000; clear BK999; clear BK1000; clear HB; have BK999 := n0_; have BK1000 := n1_; have HB := n2_; have BK1001 := n3_; have GW1001 := n4_; have GE1001 := n5_; have NB999_1001 := n6_; have NB1001_999 := n7_; have NB1000_1001 := n8_; have NB1001_1000 := n9_; clear n0_ n1_ n2_ n3_ n4_ n5_ n6_ n7_ n8_ n9_; clear hb hbox hg) | ((with_reducible refine gate_callee (f := 10) rfl ?_); refine gl_ (some 11) Try.func10 #[] ?_; (with_reducible refine (peloruslaw06_awake.calls k  t1002 _ (HAW_.out _ A5.out) A5.out).mono ?_); rintro e w10 ⟨rfl, hb⟩; refine ⟨_, rfl, ?_⟩; have n0_ := kq_ BK999 hb; have n1_ := kq_ BK1000 hb; have n2_ := kq_ BK1001 hb; have n3_ := bq_ HB hb; clear BK999; clear BK1000; clear BK1001; clear HB; have BK999 := n0_; have BK1000 := n1_; have BK1001 := n2_; have HB := n3_; clear n0_ n1_ n2_ n3_; (try clear hb); (try clear hb2); (try clear hk); (try clear hi)))
 (try simp only [Act.put, List.setIfInBounds_toArray, List.set_cons_zero, List.set_cons_succ])
 go_cut [19] (fun v19 wc => ∃ (kq : Nat) (x19_5 : Bool), v19 = .bool x19_5 ∧ Aside0 (peloruslaw06_ArithGrows.j0 kq a3 t1002 x19_5 a0_0 a0_1 a0_2 a0_3 a1_0 a1_1 a1_2 a1_3 a2_0 a2_1 a2_2 a2_3 = some r) ∧ Aside0 (kq ≤ k) ∧ Aside0 (wc.heap[gb999]? = some (.cells #[.int .i64 a0_0, .bool a0_1, .int .u64 a0_2, .int .i64 a0_3] 24 (0, 0))) ∧ Aside0 (wc.heap[gb1000]? = some (.cells #[.int .i64 a1_0, .bool a1_1, .int .u64 a1_2, .int .i64 a1_3] 24 (0, 0))) ∧ Aside0 (wc.heap[gb1001]? = some (.cells #[.int .i64 a2_0, .bool a2_1, .int .u64 a2_2, .int .i64 a2_3] 24 (0, 0))) ∧ Aside0 (Below w.heap.size w wc))
 case first =>
  have H := HC6.out
  clear HC6
  by_cases c11 : t1002 = true
  ·subst c11
   have H1 : ((num_Cmp.f a0_0 a0_1 a0_2 a0_3 a1_0 a1_1 a1_2 a1_3).bind fun t1003 => (peloruslaw06_ArithGrows.j0 k a3 true (decide (t1003 > 0)) a0_0 a0_1 a0_2 a0_3 a1_0 a1_1 a1_2 a1_3 a2_0 a2_1 a2_2 a2_3)) = some r := by rw [if_pos rfl] at H; exact H
   clear H
   have H := H1
   clear H1
   replace H := Option.bind_eq_some_iff.mp H
   obtain ⟨t1003, A120, H⟩ := H
   (try dsimp only at H)
   have A12 := Aside0.mk A120
   clear A120
   have H' := Aside0.mk H
   clear H
   have hnb13 := NB999_1000.out
   have hnc13 := NB1000_999.out
   have hnb14 := NB999_1001.out
   have hnc14 := NB1001_999.out
   have hcz15_0 := cz_ BK999 0 rfl
   have hcz15_1 := cz_ BK999 1 rfl
   have hcz15_2 := cz_ BK999 2 rfl
   have hcz15_3 := cz_ BK999 3 rfl
   have hfz15_0 := fz_ BK999 0
   have hfz15_1 := fz_ BK999 1
   have hfz15_2 := fz_ BK999 2
   have hfz15_3 := fz_ BK999 3
   have hnb16 := NB1000_1001.out
   have hnc16 := NB1001_1000.out
   have hcz17_0 := cz_ BK1000 0 rfl
   have hcz17_1 := cz_ BK1000 1 rfl
   have hcz17_2 := cz_ BK1000 2 rfl
   have hcz17_3 := cz_ BK1000 3 rfl
   have hfz17_0 := fz_ BK1000 0
   have hfz17_1 := fz_ BK1000 1
   have hfz17_2 := fz_ BK1000 2
   have hfz17_3 := fz_ BK1000 3
   go_wp2_with (first | (go_at_call 26; (with_reducible refine (num_Cmp.calls a0_0 a0_1 a0_2 a0_3 a1_0 a1_1 a1_2 a1_3 t1003 _ A12.out).mono ?_); rintro e w18 ⟨rfl, hb⟩; have n0_ := kq_ BK999 hb; have n1_ := kq_ BK1000 hb; have n2_ := kq_ BK1001 hb; have n3_ := bq_ HB hb; clear BK999; clear BK1000; clear BK1001; clear HB; have BK999 := n0_; have BK1000 := n1_; have BK1001 := n2_; have HB := n3_; clear n0_ n1_ n2_ n3_; (try clear hb); (try clear hb2); (try clear hk); (try clear hi)))
   go_meet
   case rel => exact ⟨_, (decide (t1003 > 0)), (by first | rfl | (simp; done) | (simp [*]; done)), H', ⟨by first | omega | exact Nat.le_refl _⟩, ⟨kb_ BK999.out⟩, ⟨kb_ BK1000.out⟩, ⟨kb_ BK1001.out⟩, ⟨bw_ HB.out⟩⟩
  ·replace c11 := Bool.eq_false_iff.mpr c11
   subst c11
   have H1 : (peloruslaw06_ArithGrows.j0 k a3 false true a0_0 a0_1 a0_2 a0_3 a1_0 a1_1 a1_2 a1_3 a2_0 a2_1 a2_2 a2_3) = some r := by rw [if_neg (show ¬ (false = true) by decide)] at H; exact H
   clear H
   have H := H1
   clear H1
   have H' := Aside0.mk H
   clear H
   go_wp2
   go_meet
   case rel => exact ⟨_, (true), (by first | rfl | (simp; done) | (simp [*]; done)), H', ⟨by first | omega | exact Nat.le_refl _⟩, ⟨kb_ BK999.out⟩, ⟨kb_ BK1000.out⟩, ⟨kb_ BK1001.out⟩, ⟨bw_ HB.out⟩⟩
 case rest =>
  clear HC6
  try clear c1
  try clear p2
  try clear c8
  try clear c10
  try clear c11
  try clear c13
  try clear c14
  try clear c16
  try clear hcz15_0
  try clear hcz15_1
  try clear hcz15_2
  try clear hcz15_3
  try clear hcz17_0
  try clear hcz17_1
  try clear hcz17_2
  try clear hcz17_3
  try clear hfz15_0
  try clear hfz15_1
  try clear hfz15_2
  try clear hfz15_3
  try clear hfz17_0
  try clear hfz17_1
  try clear hfz17_2
  try clear hfz17_3
  obtain ⟨kq, x19_5, rfl, HA, HJ5, BK999, BK1000, BK1001, HB⟩ := hcut
  cases kq with
  | zero => exact absurd HA.out (by simp [peloruslaw06_ArithGrows.j0])
  | succ kj5 =>
   have H := HA.out
   clear HA
   simp only [peloruslaw06_ArithGrows.j0] at H
   by_cases c19 : x19_5 = true
   ·subst c19
    have H1 : (some t1002) = some r := by rw [if_pos rfl] at H; exact H
    clear H
    have H := H1
    clear H1
    obtain rfl := Option.some.inj H
    go_wp2
    go_ret
    exact ⟨by first | rfl | (simp [errW_none, errW_some] <;> rfl) | (simp [*, errW_none, errW_some] <;> rfl), bw_ HB.out⟩
   ·replace c19 := Bool.eq_false_iff.mpr c19
    subst c19
    have H1 : ((arith_Add.f kj5 a0_0 a0_1 a0_2 a0_3 a2_0 a2_1 a2_2 a2_3 a3).bind fun bt1004 => ((arith_Add.f kj5 a1_0 a1_1 a1_2 a1_3 a2_0 a2_1 a2_2 a2_3 a3).bind fun bt1008 => ((num_Cmp.f bt1004.1 bt1004.2.1 bt1004.2.2.1 bt1004.2.2.2 bt1008.1 bt1008.2.1 bt1008.2.2.1 bt1008.2.2.2).bind fun t1012 => ((num_Sign.f a2_0 a2_1 a2_2 a2_3).bind fun t1013 => (if t1013 < 0 then (if t1012 ≤ 0 then ((arith_Mul.f kj5 a0_0 a0_1 a0_2 a0_3 a2_0 a2_1 a2_2 a2_3 a3).bind fun bt1014 => ((arith_Mul.f kj5 a1_0 a1_1 a1_2 a1_3 a2_0 a2_1 a2_2 a2_3 a3).bind fun bt1018 => ((num_Cmp.f bt1014.1 bt1014.2.1 bt1014.2.2.1 bt1014.2.2.2 bt1018.1 bt1018.2.1 bt1018.2.2.1 bt1018.2.2.2).bind fun t1022 => (some (decide (t1022 ≥ 0)))))) else (some false)) else (if t1012 ≤ 0 then ((arith_Mul.f kj5 a0_0 a0_1 a0_2 a0_3 a2_0 a2_1 a2_2 a2_3 a3).bind fun bt1023 => ((arith_Mul.f kj5 a1_0 a1_1 a1_2 a1_3 a2_0 a2_1 a2_2 a2_3 a3).bind fun bt1027 => ((num_Cmp.f bt1023.1 bt1023.2.1 bt1023.2.2.1 bt1023.2.2.2 bt1027.1 bt1027.2.1 bt1027.2.2.1 bt1027.2.2.2).bind fun t1031 => (some (decide (t1031 ≤ 0)))))) else (some false))))))) = some r := by rw [if_neg (show ¬ (false = true) by decide)] at H; exact H
    clear H
    have H := H1
    clear H1
    replace H := Option.bind_eq_some_iff.mp H
    obtain ⟨⟨t1004, t1005, t1006, t1007⟩, A200, H⟩ := H
    (try dsimp only at H)
    have A20 := Aside0.mk A200
    clear A200
    replace H := Option.bind_eq_some_iff.mp H
    obtain ⟨⟨t1008, t1009, t1010, t1011⟩, A210, H⟩ := H
    (try dsimp only at H)
    have A21 := Aside0.mk A210
    clear A210
    replace H := Option.bind_eq_some_iff.mp H
    obtain ⟨t1012, A220, H⟩ := H
    (try dsimp only at H)
    have A22 := Aside0.mk A220
    clear A220
    replace H := Option.bind_eq_some_iff.mp H
    obtain ⟨t1013, A230, H⟩ := H
    (try dsimp only at H)
    have A23 := Aside0.mk A230
    clear A230
    by_cases c24 : t1013 < 0
    ·rw [if_pos c24] at H
     have c24b0 : decide (t1013 < 0) = true := decide_eq_true c24
     clear c24
     by_cases c25 : t1012 ≤ 0
     ·rw [if_pos c25] at H
      have c25b0 : decide (t1012 ≤ 0) = true := decide_eq_true c25
      clear c25
      replace H := Option.bind_eq_some_iff.mp H
      obtain ⟨⟨t1014, t1015, t1016, t1017⟩, A260, H⟩ := H
      (try dsimp only at H)
      have A26 := Aside0.mk A260
      clear A260
      replace H := Option.bind_eq_some_iff.mp H
      obtain ⟨⟨t1018, t1019, t1020, t1021⟩, A270, H⟩ := H
      (try dsimp only at H)
      have A27 := Aside0.mk A270
      clear A270
      replace H := Option.bind_eq_some_iff.mp H
      obtain ⟨t1022, A280, H⟩ := H
      (try dsimp only at H)
      have A28 := Aside0.mk A280
      clear A280
      obtain rfl := Option.some.inj H
      try go_wp2
      have n0_ := Aside0.mk (blk_drew BK999.out)
      have n1_ := Aside0.mk (blk_drew BK1000.out)
      have n2_ := Aside0.mk (blk_drew BK1001.out)
      have n3_ := Aside0.mk (below_drew1 HB.out)
      clear BK999
      clear BK1000
      clear BK1001
      clear HB
      have BK999 := n0_
      have BK1000 := n1_
      have BK1001 := n2_
      have HB := n3_
      clear n0_ n1_ n2_ n3_
      refine start_ (n := 11) (S := fun w' => w'.cell? ⟨gb999, 0, none⟩ = some (.int .i64 a0_0) ∧ w'.cell? ⟨gb999, 1, none⟩ = some (.bool a0_1) ∧ w'.cell? ⟨gb999, 2, none⟩ = some (.int .u64 a0_2) ∧ w'.cell? ⟨gb999, 3, none⟩ = some (.int .i64 a0_3) ∧ w'.cell? ⟨gb1001, 0, none⟩ = some (.int .i64 a2_0) ∧ w'.cell? ⟨gb1001, 1, none⟩ = some (.bool a2_1) ∧ w'.cell? ⟨gb1001, 2, none⟩ = some (.int .u64 a2_2) ∧ w'.cell? ⟨gb1001, 3, none⟩ = some (.int .i64 a2_3) ∧ w'.cell? ⟨gb1000, 0, none⟩ = some (.int .i64 a1_0) ∧ w'.cell? ⟨gb1000, 1, none⟩ = some (.bool a1_1) ∧ w'.cell? ⟨gb1000, 2, none⟩ = some (.int .u64 a1_2) ∧ w'.cell? ⟨gb1000, 3, none⟩ = some (.int .i64 a1_3)) (ds := []) #[false, false, false, false, false, false, false, false, false, false, false] (by kernel_rfl) rfl rfl ⟨(blk_cell BK999.out 0).trans rfl, (blk_cell BK999.out 1).trans rfl, (blk_cell BK999.out 2).trans rfl, (blk_cell BK999.out 3).trans rfl, (blk_cell BK1001.out 0).trans rfl, (blk_cell BK1001.out 1).trans rfl, (blk_cell BK1001.out 2).trans rfl, (blk_cell BK1001.out 3).trans rfl, (blk_cell BK1000.out 0).trans rfl, (blk_cell BK1000.out 1).trans rfl, (blk_cell BK1000.out 2).trans rfl, (blk_cell BK1000.out 3).trans rfl⟩ (fun hHeld => ?_); refine with_tabW peloruslaw06_ArithGrows.tab4 peloruslaw06_ArithGrows.bits4 (fun HT_ HW_ => ?_)
      generalize wc.drew = w29 at BK999 BK1000 BK1001 HB hHeld ⊢
      refine pure_ (i := 2) (N := some 23) (v := ?_) (a' := ?_) #[false, false, true, false, false, false, false, false, false, false, false] rfl rfl (any_of HT_.out (by kernel_rfl)) (fun _ _ _ h => h) (Or.inl ⟨by rfl, ?_⟩) ?_ ?_
      rotate_left
      ·intro w'
       go_simp
       with_reducible rfl
      rotate_left
      ·simp only [Act.put, List.setIfInBounds_toArray, List.set_cons_zero, List.set_cons_succ, i64_w, i32_w]
       rfl
      refine pure_ (i := 6) (N := some 27) (v := ?_) (a' := ?_) #[false, false, true, false, false, false, true, false, false, false, false] rfl rfl (any_of HT_.out (by kernel_rfl)) (fun _ _ _ h => h) (Or.inl ⟨by rfl, ?_⟩) ?_ ?_
      rotate_left
      ·intro w'
       go_simp
       with_reducible rfl
      rotate_left
      ·simp only [Act.put, List.setIfInBounds_toArray, List.set_cons_zero, List.set_cons_succ, i64_w, i32_w]
       rfl
      refine take_ (i := 0) (N := some 21) (v := ?_) (a' := ?_) #[true, false, true, false, false, false, true, false, false, false, false] rfl rfl (take_ofW HT_.out HW_.out (by kernel_rfl)) (fun _ _ _ h => h) (Or.inl ⟨by rfl, ?_⟩) hHeld ?_ ?_
      rotate_left
      ·rintro w' ⟨s0, s1, s2, s3, s4, s5, s6, s7, s8, s9, s10, s11⟩
       go_simp
       with_reducible rfl
      rotate_left
      ·simp only [Act.put, List.setIfInBounds_toArray, List.set_cons_zero, List.set_cons_succ, i64_w, i32_w]
       rfl
      refine take_ (i := 1) (N := some 22) (v := ?_) (a' := ?_) #[true, true, true, false, false, false, true, false, false, false, false] rfl rfl (take_ofW HT_.out HW_.out (by kernel_rfl)) (fun _ _ _ h => h) (Or.inl ⟨by rfl, ?_⟩) hHeld ?_ ?_
      rotate_left
      ·rintro w' ⟨s0, s1, s2, s3, s4, s5, s6, s7, s8, s9, s10, s11⟩
       go_simp
       with_reducible rfl
      rotate_left
      ·simp only [Act.put, List.setIfInBounds_toArray, List.set_cons_zero, List.set_cons_succ, i64_w, i32_w]
       rfl
      refine take_ (i := 4) (N := some 25) (v := ?_) (a' := ?_) #[true, true, true, false, true, false, true, false, false, false, false] rfl rfl (take_ofW HT_.out HW_.out (by kernel_rfl)) (fun _ _ _ h => h) (Or.inl ⟨by rfl, ?_⟩) hHeld ?_ ?_
      rotate_left
      ·rintro w' ⟨s0, s1, s2, s3, s4, s5, s6, s7, s8, s9, s10, s11⟩
       go_simp
       with_reducible rfl
      rotate_left
      ·simp only [Act.put, List.setIfInBounds_toArray, List.set_cons_zero, List.set_cons_succ, i64_w, i32_w]
       rfl
      refine take_ (i := 5) (N := some 26) (v := ?_) (a' := ?_) #[true, true, true, false, true, true, true, false, false, false, false] rfl rfl (take_ofW HT_.out HW_.out (by kernel_rfl)) (fun _ _ _ h => h) (Or.inl ⟨by rfl, ?_⟩) hHeld ?_ ?_
      rotate_left
      ·rintro w' ⟨s0, s1, s2, s3, s4, s5, s6, s7, s8, s9, s10, s11⟩
       go_simp
       with_reducible rfl
      rotate_left
      ·simp only [Act.put, List.setIfInBounds_toArray, List.set_cons_zero, List.set_cons_succ, i64_w, i32_w]
       rfl
      refine one_ (i := 3) (N := some 24) #[true, true, true, true, true, true, true, false, false, false, false] rfl rfl (one_of HT_.out (by kernel_rfl)) (by decide) (fun K hK => ?_)
      refine gs_ Try.func11 #[.agg #[.int .i64 a0_0, .bool a0_1, .int .u64 a0_2, .int .i64 a0_3], .agg #[.int .i64 a2_0, .bool a2_1, .int .u64 a2_2, .int .i64 a2_3], .bool a3] ?_
      with_reducible refine (arith_Add.calls kj5 a0_0 a0_1 a0_2 a0_3 a2_0 a2_1 a2_2 a2_3 a3 t1004 t1005 t1006 t1007 _ A20.out).mono ?_
      rintro e w30 ⟨rfl, hb⟩
      refine ⟨_, rfl, ?_⟩
      have n0_ := kq_ BK999 hb
      have n1_ := kq_ BK1000 hb
      have n2_ := kq_ BK1001 hb
      have n3_ := bq_ HB hb
      clear BK999
      clear BK1000
      clear BK1001
      clear HB
      have BK999 := n0_
      have BK1000 := n1_
      have BK1001 := n2_
      have HB := n3_
      clear n0_ n1_ n2_ n3_
      (try clear hb)
      (try clear hb2)
      (try clear hk)
      (try clear hi)
      refine hK.out _ _ ⟨(blk_cell BK999.out 0).trans rfl, (blk_cell BK999.out 1).trans rfl, (blk_cell BK999.out 2).trans rfl, (blk_cell BK999.out 3).trans rfl, (blk_cell BK1001.out 0).trans rfl, (blk_cell BK1001.out 1).trans rfl, (blk_cell BK1001.out 2).trans rfl, (blk_cell BK1001.out 3).trans rfl, (blk_cell BK1000.out 0).trans rfl, (blk_cell BK1000.out 1).trans rfl, (blk_cell BK1000.out 2).trans rfl, (blk_cell BK1000.out 3).trans rfl⟩ (fun hHeld => ?_)
      clear hK K
      refine norm_ (a' := ?_) ?_ ?_
      rotate_left
      ·show Act.put _ (some 24) _ = _
       simp only [Act.put, List.setIfInBounds_toArray, List.set_cons_zero, List.set_cons_succ, i64_w, i32_w]
       rfl
      refine one_ (i := 7) (N := some 28) #[true, true, true, true, true, true, true, true, false, false, false] rfl rfl (one_of HT_.out (by kernel_rfl)) (by decide) (fun K hK => ?_)
      refine gs_ Try.func11 #[.agg #[.int .i64 a1_0, .bool a1_1, .int .u64 a1_2, .int .i64 a1_3], .agg #[.int .i64 a2_0, .bool a2_1, .int .u64 a2_2, .int .i64 a2_3], .bool a3] ?_
      with_reducible refine (arith_Add.calls kj5 a1_0 a1_1 a1_2 a1_3 a2_0 a2_1 a2_2 a2_3 a3 t1008 t1009 t1010 t1011 _ A21.out).mono ?_
      rintro e w31 ⟨rfl, hb⟩
      refine ⟨_, rfl, ?_⟩
      have n0_ := kq_ BK999 hb
      have n1_ := kq_ BK1000 hb
      have n2_ := kq_ BK1001 hb
      have n3_ := bq_ HB hb
      clear BK999
      clear BK1000
      clear BK1001
      clear HB
      have BK999 := n0_
      have BK1000 := n1_
      have BK1001 := n2_
      have HB := n3_
      clear n0_ n1_ n2_ n3_
      (try clear hb)
      (try clear hb2)
      (try clear hk)
      (try clear hi)
      refine hK.out _ _ ⟨(blk_cell BK999.out 0).trans rfl, (blk_cell BK999.out 1).trans rfl, (blk_cell BK999.out 2).trans rfl, (blk_cell BK999.out 3).trans rfl, (blk_cell BK1001.out 0).trans rfl, (blk_cell BK1001.out 1).trans rfl, (blk_cell BK1001.out 2).trans rfl, (blk_cell BK1001.out 3).trans rfl, (blk_cell BK1000.out 0).trans rfl, (blk_cell BK1000.out 1).trans rfl, (blk_cell BK1000.out 2).trans rfl, (blk_cell BK1000.out 3).trans rfl⟩ (fun hHeld => ?_)
      clear hK K
      refine norm_ (a' := ?_) ?_ ?_
      rotate_left
      ·show Act.put _ (some 28) _ = _
       simp only [Act.put, List.setIfInBounds_toArray, List.set_cons_zero, List.set_cons_succ, i64_w, i32_w]
       rfl
      refine one_ (i := 8) (N := some 29) #[true, true, true, true, true, true, true, true, true, false, false] rfl rfl (one_of HT_.out (by kernel_rfl)) (by decide) (fun K hK => ?_)
      refine gs_ Try.func26 #[.agg #[.int .i64 t1004, .bool t1005, .int .u64 t1006, .int .i64 t1007], .agg #[.int .i64 t1008, .bool t1009, .int .u64 t1010, .int .i64 t1011]] ?_
      with_reducible refine (num_Cmp.calls t1004 t1005 t1006 t1007 t1008 t1009 t1010 t1011 t1012 _ A22.out).mono ?_
      rintro e w32 ⟨rfl, hb⟩
      refine ⟨_, rfl, ?_⟩
      have n0_ := kq_ BK999 hb
      have n1_ := kq_ BK1000 hb
      have n2_ := kq_ BK1001 hb
      have n3_ := bq_ HB hb
      clear BK999
      clear BK1000
      clear BK1001
      clear HB
      have BK999 := n0_
      have BK1000 := n1_
      have BK1001 := n2_
      have HB := n3_
      clear n0_ n1_ n2_ n3_
      (try clear hb)
      (try clear hb2)
      (try clear hk)
      (try clear hi)
      refine hK.out _ _ ⟨(blk_cell BK999.out 0).trans rfl, (blk_cell BK999.out 1).trans rfl, (blk_cell BK999.out 2).trans rfl, (blk_cell BK999.out 3).trans rfl, (blk_cell BK1001.out 0).trans rfl, (blk_cell BK1001.out 1).trans rfl, (blk_cell BK1001.out 2).trans rfl, (blk_cell BK1001.out 3).trans rfl, (blk_cell BK1000.out 0).trans rfl, (blk_cell BK1000.out 1).trans rfl, (blk_cell BK1000.out 2).trans rfl, (blk_cell BK1000.out 3).trans rfl⟩ (fun hHeld => ?_)
      clear hK K
      refine norm_ (a' := ?_) ?_ ?_
      rotate_left
      ·show Act.put _ (some 29) _ = _
       simp only [Act.put, List.setIfInBounds_toArray, List.set_cons_zero, List.set_cons_succ, i64_w, i32_w]
       rfl
      refine pure_ (i := 9) (N := some 30) (v := ?_) (a' := ?_) #[true, true, true, true, true, true, true, true, true, true, false] rfl rfl (any_of HT_.out (by kernel_rfl)) (fun _ _ _ h => h) (Or.inl ⟨by rfl, ?_⟩) ?_ ?_
      rotate_left
      ·intro w'
       go_simp
       with_reducible rfl
      rotate_left
      ·simp only [Act.put, List.setIfInBounds_toArray, List.set_cons_zero, List.set_cons_succ, i64_w, i32_w]
       rfl
      refine pure_ (i := 10) (N := some 10) (v := ?_) (a' := ?_) #[true, true, true, true, true, true, true, true, true, true, true] rfl rfl (any_of HT_.out (by kernel_rfl)) (fun _ _ _ h => h) (Or.inl ⟨by rfl, ?_⟩) ?_ ?_
      rotate_left
      ·intro w'
       go_simp
       with_reducible rfl
      rotate_left
      ·simp only [Act.put, List.setIfInBounds_toArray, List.set_cons_zero, List.set_cons_succ, i64_w, i32_w]
       rfl
      refine done_ (done_of HT_.out (by kernel_rfl)) ?_
      have hnb33 := NB1001_999.out
      have hnc33 := NB999_1001.out
      have hnb34 := NB1001_1000.out
      have hnc34 := NB1000_1001.out
      have hcz35_0 := cz_ BK1001 0 rfl
      have hcz35_1 := cz_ BK1001 1 rfl
      have hcz35_2 := cz_ BK1001 2 rfl
      have hcz35_3 := cz_ BK1001 3 rfl
      have hfz35_0 := fz_ BK1001 0
      have hfz35_1 := fz_ BK1001 1
      have hfz35_2 := fz_ BK1001 2
      have hfz35_3 := fz_ BK1001 3
      try go_wp2_with (first | ((with_reducible refine gate_callee (f := 27) rfl ?_); refine gl_ (some 32) Try.func27 #[.agg #[.int .i64 a2_0, .bool a2_1, .int .u64 a2_2, .int .i64 a2_3]] ?_; (with_reducible refine (num_Sign.calls a2_0 a2_1 a2_2 a2_3 t1013 _ A23.out).mono ?_); rintro e w36 ⟨rfl, hb⟩; refine ⟨_, rfl, ?_⟩; have n0_ := kq_ BK999 hb; have n1_ := kq_ BK1000 hb; have n2_ := kq_ BK1001 hb; have n3_ := bq_ HB hb; clear BK999; clear BK1000; clear BK1001; clear HB; have BK999 := n0_; have BK1000 := n1_; have BK1001 := n2_; have HB := n3_; clear n0_ n1_ n2_ n3_; (try clear hb); (try clear hb2); (try clear hk); (try clear hi)))
      have n0_ := Aside0.mk (blk_drew BK999.out)
      have n1_ := Aside0.mk (blk_drew BK1000.out)
      have n2_ := Aside0.mk (blk_drew BK1001.out)
      have n3_ := Aside0.mk (below_drew1 HB.out)
      clear BK999
      clear BK1000
      clear BK1001
      clear HB
      have BK999 := n0_
      have BK1000 := n1_
      have BK1001 := n2_
      have HB := n3_
      clear n0_ n1_ n2_ n3_
      refine start_ (n := 14) (S := fun w' => w'.cell? ⟨gb999, 0, none⟩ = some (.int .i64 a0_0) ∧ w'.cell? ⟨gb999, 1, none⟩ = some (.bool a0_1) ∧ w'.cell? ⟨gb999, 2, none⟩ = some (.int .u64 a0_2) ∧ w'.cell? ⟨gb999, 3, none⟩ = some (.int .i64 a0_3) ∧ w'.cell? ⟨gb1001, 0, none⟩ = some (.int .i64 a2_0) ∧ w'.cell? ⟨gb1001, 1, none⟩ = some (.bool a2_1) ∧ w'.cell? ⟨gb1001, 2, none⟩ = some (.int .u64 a2_2) ∧ w'.cell? ⟨gb1001, 3, none⟩ = some (.int .i64 a2_3) ∧ w'.cell? ⟨gb1000, 0, none⟩ = some (.int .i64 a1_0) ∧ w'.cell? ⟨gb1000, 1, none⟩ = some (.bool a1_1) ∧ w'.cell? ⟨gb1000, 2, none⟩ = some (.int .u64 a1_2) ∧ w'.cell? ⟨gb1000, 3, none⟩ = some (.int .i64 a1_3)) (ds := []) #[false, false, false, false, false, false, false, false, false, false, false, false, false, false] (by kernel_rfl) rfl rfl ⟨(blk_cell BK999.out 0).trans rfl, (blk_cell BK999.out 1).trans rfl, (blk_cell BK999.out 2).trans rfl, (blk_cell BK999.out 3).trans rfl, (blk_cell BK1001.out 0).trans rfl, (blk_cell BK1001.out 1).trans rfl, (blk_cell BK1001.out 2).trans rfl, (blk_cell BK1001.out 3).trans rfl, (blk_cell BK1000.out 0).trans rfl, (blk_cell BK1000.out 1).trans rfl, (blk_cell BK1000.out 2).trans rfl, (blk_cell BK1000.out 3).trans rfl⟩ (fun hHeld => ?_); refine with_tabW peloruslaw06_ArithGrows.tab6 peloruslaw06_ArithGrows.bits6 (fun HT_ HW_ => ?_)
      generalize w36.drew = w37 at BK999 BK1000 BK1001 HB hHeld ⊢
      refine pure_ (i := 0) (N := some 34) (v := ?_) (a' := ?_) #[true, false, false, false, false, false, false, false, false, false, false, false, false, false] rfl rfl (any_of HT_.out (by kernel_rfl)) (fun _ _ _ h => h) (Or.inl ⟨by rfl, ?_⟩) ?_ ?_
      rotate_left
      ·intro w'
       go_simp
       with_reducible rfl
      rotate_left
      ·simp only [Act.put, List.setIfInBounds_toArray, List.set_cons_zero, List.set_cons_succ, i64_w, i32_w]
       rfl
      refine pure_ (i := 1) (N := some 35) (v := ?_) (a' := ?_) #[true, true, false, false, false, false, false, false, false, false, false, false, false, false] rfl rfl (any_of HT_.out (by kernel_rfl)) (fun _ _ _ h => h) (Or.inl ⟨by rfl, ?_⟩) ?_ ?_
      rotate_left
      ·intro w'
       go_simp
       with_reducible rfl
      rotate_left
      ·simp only [Act.put, List.setIfInBounds_toArray, List.set_cons_zero, List.set_cons_succ, i64_w, i32_w]
       rfl
      refine pure_ (i := 4) (N := some 38) (v := ?_) (a' := ?_) #[true, true, false, false, true, false, false, false, false, false, false, false, false, false] rfl rfl (any_of HT_.out (by kernel_rfl)) (fun _ _ _ h => h) (Or.inl ⟨by rfl, ?_⟩) ?_ ?_
      rotate_left
      ·intro w'
       go_simp
       with_reducible rfl
      rotate_left
      ·simp only [Act.put, List.setIfInBounds_toArray, List.set_cons_zero, List.set_cons_succ, i64_w, i32_w]
       rfl
      refine pure_ (i := 8) (N := some 42) (v := ?_) (a' := ?_) #[true, true, false, false, true, false, false, false, true, false, false, false, false, false] rfl rfl (any_of HT_.out (by kernel_rfl)) (fun _ _ _ h => h) (Or.inl ⟨by rfl, ?_⟩) ?_ ?_
      rotate_left
      ·intro w'
       go_simp
       with_reducible rfl
      rotate_left
      ·simp only [Act.put, List.setIfInBounds_toArray, List.set_cons_zero, List.set_cons_succ, i64_w, i32_w]
       rfl
      refine take_ (i := 2) (N := some 36) (v := ?_) (a' := ?_) #[true, true, true, false, true, false, false, false, true, false, false, false, false, false] rfl rfl (take_ofW HT_.out HW_.out (by kernel_rfl)) (fun _ _ _ h => h) (Or.inl ⟨by rfl, ?_⟩) hHeld ?_ ?_
      rotate_left
      ·rintro w' ⟨s0, s1, s2, s3, s4, s5, s6, s7, s8, s9, s10, s11⟩
       go_simp
       with_reducible rfl
      rotate_left
      ·simp only [Act.put, List.setIfInBounds_toArray, List.set_cons_zero, List.set_cons_succ, i64_w, i32_w]
       rfl
      refine take_ (i := 3) (N := some 37) (v := ?_) (a' := ?_) #[true, true, true, true, true, false, false, false, true, false, false, false, false, false] rfl rfl (take_ofW HT_.out HW_.out (by kernel_rfl)) (fun _ _ _ h => h) (Or.inl ⟨by rfl, ?_⟩) hHeld ?_ ?_
      rotate_left
      ·rintro w' ⟨s0, s1, s2, s3, s4, s5, s6, s7, s8, s9, s10, s11⟩
       go_simp
       with_reducible rfl
      rotate_left
      ·simp only [Act.put, List.setIfInBounds_toArray, List.set_cons_zero, List.set_cons_succ, i64_w, i32_w]
       rfl
      refine take_ (i := 6) (N := some 40) (v := ?_) (a' := ?_) #[true, true, true, true, true, false, true, false, true, false, false, false, false, false] rfl rfl (take_ofW HT_.out HW_.out (by kernel_rfl)) (fun _ _ _ h => h) (Or.inl ⟨by rfl, ?_⟩) hHeld ?_ ?_
      rotate_left
      ·rintro w' ⟨s0, s1, s2, s3, s4, s5, s6, s7, s8, s9, s10, s11⟩
       go_simp
       with_reducible rfl
      rotate_left
      ·simp only [Act.put, List.setIfInBounds_toArray, List.set_cons_zero, List.set_cons_succ, i64_w, i32_w]
       rfl
      refine take_ (i := 7) (N := some 41) (v := ?_) (a' := ?_) #[true, true, true, true, true, false, true, true, true, false, false, false, false, false] rfl rfl (take_ofW HT_.out HW_.out (by kernel_rfl)) (fun _ _ _ h => h) (Or.inl ⟨by rfl, ?_⟩) hHeld ?_ ?_
      rotate_left
      ·rintro w' ⟨s0, s1, s2, s3, s4, s5, s6, s7, s8, s9, s10, s11⟩
       go_simp
       with_reducible rfl
      rotate_left
      ·simp only [Act.put, List.setIfInBounds_toArray, List.set_cons_zero, List.set_cons_succ, i64_w, i32_w]
       rfl
      refine one_ (i := 5) (N := some 39) #[true, true, true, true, true, true, true, true, true, false, false, false, false, false] rfl rfl (one_of HT_.out (by kernel_rfl)) (by decide) (fun K hK => ?_)
      refine gs_ Try.func13 #[.agg #[.int .i64 a0_0, .bool a0_1, .int .u64 a0_2, .int .i64 a0_3], .agg #[.int .i64 a2_0, .bool a2_1, .int .u64 a2_2, .int .i64 a2_3], .bool a3] ?_
      with_reducible refine (arith_Mul.calls kj5 a0_0 a0_1 a0_2 a0_3 a2_0 a2_1 a2_2 a2_3 a3 t1014 t1015 t1016 t1017 _ A26.out).mono ?_
      rintro e w38 ⟨rfl, hb⟩
      refine ⟨_, rfl, ?_⟩
      have n0_ := kq_ BK999 hb
      have n1_ := kq_ BK1000 hb
      have n2_ := kq_ BK1001 hb
      have n3_ := bq_ HB hb
      clear BK999
      clear BK1000
      clear BK1001
      clear HB
      have BK999 := n0_
      have BK1000 := n1_
      have BK1001 := n2_
      have HB := n3_
      clear n0_ n1_ n2_ n3_
      (try clear hb)
      (try clear hb2)
      (try clear hk)
      (try clear hi)
      refine hK.out _ _ ⟨(blk_cell BK999.out 0).trans rfl, (blk_cell BK999.out 1).trans rfl, (blk_cell BK999.out 2).trans rfl, (blk_cell BK999.out 3).trans rfl, (blk_cell BK1001.out 0).trans rfl, (blk_cell BK1001.out 1).trans rfl, (blk_cell BK1001.out 2).trans rfl, (blk_cell BK1001.out 3).trans rfl, (blk_cell BK1000.out 0).trans rfl, (blk_cell BK1000.out 1).trans rfl, (blk_cell BK1000.out 2).trans rfl, (blk_cell BK1000.out 3).trans rfl⟩ (fun hHeld => ?_)
      clear hK K
      refine norm_ (a' := ?_) ?_ ?_
      rotate_left
      ·show Act.put _ (some 39) _ = _
       simp only [Act.put, List.setIfInBounds_toArray, List.set_cons_zero, List.set_cons_succ, i64_w, i32_w]
       rfl
      refine one_ (i := 9) (N := some 43) #[true, true, true, true, true, true, true, true, true, true, false, false, false, false] rfl rfl (one_of HT_.out (by kernel_rfl)) (by decide) (fun K hK => ?_)
      refine gs_ Try.func13 #[.agg #[.int .i64 a1_0, .bool a1_1, .int .u64 a1_2, .int .i64 a1_3], .agg #[.int .i64 a2_0, .bool a2_1, .int .u64 a2_2, .int .i64 a2_3], .bool a3] ?_
      with_reducible refine (arith_Mul.calls kj5 a1_0 a1_1 a1_2 a1_3 a2_0 a2_1 a2_2 a2_3 a3 t1018 t1019 t1020 t1021 _ A27.out).mono ?_
      rintro e w39 ⟨rfl, hb⟩
      refine ⟨_, rfl, ?_⟩
      have n0_ := kq_ BK999 hb
      have n1_ := kq_ BK1000 hb
      have n2_ := kq_ BK1001 hb
      have n3_ := bq_ HB hb
      clear BK999
      clear BK1000
      clear BK1001
      clear HB
      have BK999 := n0_
      have BK1000 := n1_
      have BK1001 := n2_
      have HB := n3_
      clear n0_ n1_ n2_ n3_
      (try clear hb)
      (try clear hb2)
      (try clear hk)
      (try clear hi)
      refine hK.out _ _ ⟨(blk_cell BK999.out 0).trans rfl, (blk_cell BK999.out 1).trans rfl, (blk_cell BK999.out 2).trans rfl, (blk_cell BK999.out 3).trans rfl, (blk_cell BK1001.out 0).trans rfl, (blk_cell BK1001.out 1).trans rfl, (blk_cell BK1001.out 2).trans rfl, (blk_cell BK1001.out 3).trans rfl, (blk_cell BK1000.out 0).trans rfl, (blk_cell BK1000.out 1).trans rfl, (blk_cell BK1000.out 2).trans rfl, (blk_cell BK1000.out 3).trans rfl⟩ (fun hHeld => ?_)
      clear hK K
      refine norm_ (a' := ?_) ?_ ?_
      rotate_left
      ·show Act.put _ (some 43) _ = _
       simp only [Act.put, List.setIfInBounds_toArray, List.set_cons_zero, List.set_cons_succ, i64_w, i32_w]
       rfl
      refine one_ (i := 10) (N := some 44) #[true, true, true, true, true, true, true, true, true, true, true, false, false, false] rfl rfl (one_of HT_.out (by kernel_rfl)) (by decide) (fun K hK => ?_)
      refine gs_ Try.func26 #[.agg #[.int .i64 t1014, .bool t1015, .int .u64 t1016, .int .i64 t1017], .agg #[.int .i64 t1018, .bool t1019, .int .u64 t1020, .int .i64 t1021]] ?_
      with_reducible refine (num_Cmp.calls t1014 t1015 t1016 t1017 t1018 t1019 t1020 t1021 t1022 _ A28.out).mono ?_
      rintro e w40 ⟨rfl, hb⟩
      refine ⟨_, rfl, ?_⟩
      have n0_ := kq_ BK999 hb
      have n1_ := kq_ BK1000 hb
      have n2_ := kq_ BK1001 hb
      have n3_ := bq_ HB hb
      clear BK999
      clear BK1000
      clear BK1001
      clear HB
      have BK999 := n0_
      have BK1000 := n1_
      have BK1001 := n2_
      have HB := n3_
      clear n0_ n1_ n2_ n3_
      (try clear hb)
      (try clear hb2)
      (try clear hk)
      (try clear hi)
      refine hK.out _ _ ⟨(blk_cell BK999.out 0).trans rfl, (blk_cell BK999.out 1).trans rfl, (blk_cell BK999.out 2).trans rfl, (blk_cell BK999.out 3).trans rfl, (blk_cell BK1001.out 0).trans rfl, (blk_cell BK1001.out 1).trans rfl, (blk_cell BK1001.out 2).trans rfl, (blk_cell BK1001.out 3).trans rfl, (blk_cell BK1000.out 0).trans rfl, (blk_cell BK1000.out 1).trans rfl, (blk_cell BK1000.out 2).trans rfl, (blk_cell BK1000.out 3).trans rfl⟩ (fun hHeld => ?_)
      clear hK K
      refine norm_ (a' := ?_) ?_ ?_
      rotate_left
      ·show Act.put _ (some 44) _ = _
       simp only [Act.put, List.setIfInBounds_toArray, List.set_cons_zero, List.set_cons_succ, i64_w, i32_w]
       rfl
      refine pure_ (i := 11) (N := some 45) (v := ?_) (a' := ?_) #[true, true, true, true, true, true, true, true, true, true, true, true, false, false] rfl rfl (any_of HT_.out (by kernel_rfl)) (fun _ _ _ h => h) (Or.inl ⟨by rfl, ?_⟩) ?_ ?_
      rotate_left
      ·intro w'
       go_simp
       with_reducible rfl
      rotate_left
      ·simp only [Act.put, List.setIfInBounds_toArray, List.set_cons_zero, List.set_cons_succ, i64_w, i32_w]
       rfl
      refine pure_ (i := 12) (N := some 46) (v := ?_) (a' := ?_) #[true, true, true, true, true, true, true, true, true, true, true, true, true, false] rfl rfl (any_of HT_.out (by kernel_rfl)) (fun _ _ _ h => h) (Or.inl ⟨by rfl, ?_⟩) ?_ ?_
      rotate_left
      ·intro w'
       go_simp
       with_reducible rfl
      rotate_left
      ·simp only [Act.put, List.setIfInBounds_toArray, List.set_cons_zero, List.set_cons_succ, i64_w, i32_w]
       rfl
      refine pure_ (i := 13) (N := some 8) (v := ?_) (a' := ?_) #[true, true, true, true, true, true, true, true, true, true, true, true, true, true] rfl rfl (any_of HT_.out (by kernel_rfl)) (fun _ _ _ h => h) (Or.inl ⟨by rfl, ?_⟩) ?_ ?_
      rotate_left
      ·intro w'
       go_simp
       with_reducible rfl
      rotate_left
      ·simp only [Act.put, List.setIfInBounds_toArray, List.set_cons_zero, List.set_cons_succ, i64_w, i32_w]
       rfl
      refine done_ (done_of HT_.out (by kernel_rfl)) ?_
      try go_wp2
      go_ret
      exact ⟨by first | rfl | (simp [errW_none, errW_some] <;> rfl) | (simp [*, errW_none, errW_some] <;> rfl), bw_ HB.out⟩
     ·rw [if_neg c25] at H
      have c25b0 : decide (t1012 ≤ 0) = false := decide_eq_false c25
      clear c25
      exact absurd ((Option.some.inj H).trans HRT_.out) (by simp)
    ·rw [if_neg c24] at H
     have c24b0 : decide (t1013 < 0) = false := decide_eq_false c24
     clear c24
     by_cases c41 : t1012 ≤ 0
     ·rw [if_pos c41] at H
      have c41b0 : decide (t1012 ≤ 0) = true := decide_eq_true c41
      clear c41
      replace H := Option.bind_eq_some_iff.mp H
      obtain ⟨⟨t1023, t1024, t1025, t1026⟩, A420, H⟩ := H
      (try dsimp only at H)
      have A42 := Aside0.mk A420
      clear A420
      replace H := Option.bind_eq_some_iff.mp H
      obtain ⟨⟨t1027, t1028, t1029, t1030⟩, A430, H⟩ := H
      (try dsimp only at H)
      have A43 := Aside0.mk A430
      clear A430
      replace H := Option.bind_eq_some_iff.mp H
      obtain ⟨t1031, A440, H⟩ := H
      (try dsimp only at H)
      have A44 := Aside0.mk A440
      clear A440
      obtain rfl := Option.some.inj H
      try go_wp2
      have n0_ := Aside0.mk (blk_drew BK999.out)
      have n1_ := Aside0.mk (blk_drew BK1000.out)
      have n2_ := Aside0.mk (blk_drew BK1001.out)
      have n3_ := Aside0.mk (below_drew1 HB.out)
      clear BK999
      clear BK1000
      clear BK1001
      clear HB
      have BK999 := n0_
      have BK1000 := n1_
      have BK1001 := n2_
      have HB := n3_
      clear n0_ n1_ n2_ n3_
      refine start_ (n := 11) (S := fun w' => w'.cell? ⟨gb999, 0, none⟩ = some (.int .i64 a0_0) ∧ w'.cell? ⟨gb999, 1, none⟩ = some (.bool a0_1) ∧ w'.cell? ⟨gb999, 2, none⟩ = some (.int .u64 a0_2) ∧ w'.cell? ⟨gb999, 3, none⟩ = some (.int .i64 a0_3) ∧ w'.cell? ⟨gb1001, 0, none⟩ = some (.int .i64 a2_0) ∧ w'.cell? ⟨gb1001, 1, none⟩ = some (.bool a2_1) ∧ w'.cell? ⟨gb1001, 2, none⟩ = some (.int .u64 a2_2) ∧ w'.cell? ⟨gb1001, 3, none⟩ = some (.int .i64 a2_3) ∧ w'.cell? ⟨gb1000, 0, none⟩ = some (.int .i64 a1_0) ∧ w'.cell? ⟨gb1000, 1, none⟩ = some (.bool a1_1) ∧ w'.cell? ⟨gb1000, 2, none⟩ = some (.int .u64 a1_2) ∧ w'.cell? ⟨gb1000, 3, none⟩ = some (.int .i64 a1_3)) (ds := []) #[false, false, false, false, false, false, false, false, false, false, false] (by kernel_rfl) rfl rfl ⟨(blk_cell BK999.out 0).trans rfl, (blk_cell BK999.out 1).trans rfl, (blk_cell BK999.out 2).trans rfl, (blk_cell BK999.out 3).trans rfl, (blk_cell BK1001.out 0).trans rfl, (blk_cell BK1001.out 1).trans rfl, (blk_cell BK1001.out 2).trans rfl, (blk_cell BK1001.out 3).trans rfl, (blk_cell BK1000.out 0).trans rfl, (blk_cell BK1000.out 1).trans rfl, (blk_cell BK1000.out 2).trans rfl, (blk_cell BK1000.out 3).trans rfl⟩ (fun hHeld => ?_); refine with_tabW peloruslaw06_ArithGrows.tab4 peloruslaw06_ArithGrows.bits4 (fun HT_ HW_ => ?_)
      generalize wc.drew = w45 at BK999 BK1000 BK1001 HB hHeld ⊢
      refine pure_ (i := 2) (N := some 23) (v := ?_) (a' := ?_) #[false, false, true, false, false, false, false, false, false, false, false] rfl rfl (any_of HT_.out (by kernel_rfl)) (fun _ _ _ h => h) (Or.inl ⟨by rfl, ?_⟩) ?_ ?_
      rotate_left
      ·intro w'
       go_simp
       with_reducible rfl
      rotate_left
      ·simp only [Act.put, List.setIfInBounds_toArray, List.set_cons_zero, List.set_cons_succ, i64_w, i32_w]
       rfl
      refine pure_ (i := 6) (N := some 27) (v := ?_) (a' := ?_) #[false, false, true, false, false, false, true, false, false, false, false] rfl rfl (any_of HT_.out (by kernel_rfl)) (fun _ _ _ h => h) (Or.inl ⟨by rfl, ?_⟩) ?_ ?_
      rotate_left
      ·intro w'
       go_simp
       with_reducible rfl
      rotate_left
      ·simp only [Act.put, List.setIfInBounds_toArray, List.set_cons_zero, List.set_cons_succ, i64_w, i32_w]
       rfl
      refine take_ (i := 0) (N := some 21) (v := ?_) (a' := ?_) #[true, false, true, false, false, false, true, false, false, false, false] rfl rfl (take_ofW HT_.out HW_.out (by kernel_rfl)) (fun _ _ _ h => h) (Or.inl ⟨by rfl, ?_⟩) hHeld ?_ ?_
      rotate_left
      ·rintro w' ⟨s0, s1, s2, s3, s4, s5, s6, s7, s8, s9, s10, s11⟩
       go_simp
       with_reducible rfl
      rotate_left
      ·simp only [Act.put, List.setIfInBounds_toArray, List.set_cons_zero, List.set_cons_succ, i64_w, i32_w]
       rfl
      refine take_ (i := 1) (N := some 22) (v := ?_) (a' := ?_) #[true, true, true, false, false, false, true, false, false, false, false] rfl rfl (take_ofW HT_.out HW_.out (by kernel_rfl)) (fun _ _ _ h => h) (Or.inl ⟨by rfl, ?_⟩) hHeld ?_ ?_
      rotate_left
      ·rintro w' ⟨s0, s1, s2, s3, s4, s5, s6, s7, s8, s9, s10, s11⟩
       go_simp
       with_reducible rfl
      rotate_left
      ·simp only [Act.put, List.setIfInBounds_toArray, List.set_cons_zero, List.set_cons_succ, i64_w, i32_w]
       rfl
      refine take_ (i := 4) (N := some 25) (v := ?_) (a' := ?_) #[true, true, true, false, true, false, true, false, false, false, false] rfl rfl (take_ofW HT_.out HW_.out (by kernel_rfl)) (fun _ _ _ h => h) (Or.inl ⟨by rfl, ?_⟩) hHeld ?_ ?_
      rotate_left
      ·rintro w' ⟨s0, s1, s2, s3, s4, s5, s6, s7, s8, s9, s10, s11⟩
       go_simp
       with_reducible rfl
      rotate_left
      ·simp only [Act.put, List.setIfInBounds_toArray, List.set_cons_zero, List.set_cons_succ, i64_w, i32_w]
       rfl
      refine take_ (i := 5) (N := some 26) (v := ?_) (a' := ?_) #[true, true, true, false, true, true, true, false, false, false, false] rfl rfl (take_ofW HT_.out HW_.out (by kernel_rfl)) (fun _ _ _ h => h) (Or.inl ⟨by rfl, ?_⟩) hHeld ?_ ?_
      rotate_left
      ·rintro w' ⟨s0, s1, s2, s3, s4, s5, s6, s7, s8, s9, s10, s11⟩
       go_simp
       with_reducible rfl
      rotate_left
      ·simp only [Act.put, List.setIfInBounds_toArray, List.set_cons_zero, List.set_cons_succ, i64_w, i32_w]
       rfl
      refine one_ (i := 3) (N := some 24) #[true, true, true, true, true, true, true, false, false, false, false] rfl rfl (one_of HT_.out (by kernel_rfl)) (by decide) (fun K hK => ?_)
      refine gs_ Try.func11 #[.agg #[.int .i64 a0_0, .bool a0_1, .int .u64 a0_2, .int .i64 a0_3], .agg #[.int .i64 a2_0, .bool a2_1, .int .u64 a2_2, .int .i64 a2_3], .bool a3] ?_
      with_reducible refine (arith_Add.calls kj5 a0_0 a0_1 a0_2 a0_3 a2_0 a2_1 a2_2 a2_3 a3 t1004 t1005 t1006 t1007 _ A20.out).mono ?_
      rintro e w46 ⟨rfl, hb⟩
      refine ⟨_, rfl, ?_⟩
      have n0_ := kq_ BK999 hb
      have n1_ := kq_ BK1000 hb
      have n2_ := kq_ BK1001 hb
      have n3_ := bq_ HB hb
      clear BK999
      clear BK1000
      clear BK1001
      clear HB
      have BK999 := n0_
      have BK1000 := n1_
      have BK1001 := n2_
      have HB := n3_
      clear n0_ n1_ n2_ n3_
      (try clear hb)
      (try clear hb2)
      (try clear hk)
      (try clear hi)
      refine hK.out _ _ ⟨(blk_cell BK999.out 0).trans rfl, (blk_cell BK999.out 1).trans rfl, (blk_cell BK999.out 2).trans rfl, (blk_cell BK999.out 3).trans rfl, (blk_cell BK1001.out 0).trans rfl, (blk_cell BK1001.out 1).trans rfl, (blk_cell BK1001.out 2).trans rfl, (blk_cell BK1001.out 3).trans rfl, (blk_cell BK1000.out 0).trans rfl, (blk_cell BK1000.out 1).trans rfl, (blk_cell BK1000.out 2).trans rfl, (blk_cell BK1000.out 3).trans rfl⟩ (fun hHeld => ?_)
      clear hK K
      refine norm_ (a' := ?_) ?_ ?_
      rotate_left
      ·show Act.put _ (some 24) _ = _
       simp only [Act.put, List.setIfInBounds_toArray, List.set_cons_zero, List.set_cons_succ, i64_w, i32_w]
       rfl
      refine one_ (i := 7) (N := some 28) #[true, true, true, true, true, true, true, true, false, false, false] rfl rfl (one_of HT_.out (by kernel_rfl)) (by decide) (fun K hK => ?_)
      refine gs_ Try.func11 #[.agg #[.int .i64 a1_0, .bool a1_1, .int .u64 a1_2, .int .i64 a1_3], .agg #[.int .i64 a2_0, .bool a2_1, .int .u64 a2_2, .int .i64 a2_3], .bool a3] ?_
      with_reducible refine (arith_Add.calls kj5 a1_0 a1_1 a1_2 a1_3 a2_0 a2_1 a2_2 a2_3 a3 t1008 t1009 t1010 t1011 _ A21.out).mono ?_
      rintro e w47 ⟨rfl, hb⟩
      refine ⟨_, rfl, ?_⟩
      have n0_ := kq_ BK999 hb
      have n1_ := kq_ BK1000 hb
      have n2_ := kq_ BK1001 hb
      have n3_ := bq_ HB hb
      clear BK999
      clear BK1000
      clear BK1001
      clear HB
      have BK999 := n0_
      have BK1000 := n1_
      have BK1001 := n2_
      have HB := n3_
      clear n0_ n1_ n2_ n3_
      (try clear hb)
      (try clear hb2)
      (try clear hk)
      (try clear hi)
      refine hK.out _ _ ⟨(blk_cell BK999.out 0).trans rfl, (blk_cell BK999.out 1).trans rfl, (blk_cell BK999.out 2).trans rfl, (blk_cell BK999.out 3).trans rfl, (blk_cell BK1001.out 0).trans rfl, (blk_cell BK1001.out 1).trans rfl, (blk_cell BK1001.out 2).trans rfl, (blk_cell BK1001.out 3).trans rfl, (blk_cell BK1000.out 0).trans rfl, (blk_cell BK1000.out 1).trans rfl, (blk_cell BK1000.out 2).trans rfl, (blk_cell BK1000.out 3).trans rfl⟩ (fun hHeld => ?_)
      clear hK K
      refine norm_ (a' := ?_) ?_ ?_
      rotate_left
      ·show Act.put _ (some 28) _ = _
       simp only [Act.put, List.setIfInBounds_toArray, List.set_cons_zero, List.set_cons_succ, i64_w, i32_w]
       rfl
      refine one_ (i := 8) (N := some 29) #[true, true, true, true, true, true, true, true, true, false, false] rfl rfl (one_of HT_.out (by kernel_rfl)) (by decide) (fun K hK => ?_)
      refine gs_ Try.func26 #[.agg #[.int .i64 t1004, .bool t1005, .int .u64 t1006, .int .i64 t1007], .agg #[.int .i64 t1008, .bool t1009, .int .u64 t1010, .int .i64 t1011]] ?_
      with_reducible refine (num_Cmp.calls t1004 t1005 t1006 t1007 t1008 t1009 t1010 t1011 t1012 _ A22.out).mono ?_
      rintro e w48 ⟨rfl, hb⟩
      refine ⟨_, rfl, ?_⟩
      have n0_ := kq_ BK999 hb
      have n1_ := kq_ BK1000 hb
      have n2_ := kq_ BK1001 hb
      have n3_ := bq_ HB hb
      clear BK999
      clear BK1000
      clear BK1001
      clear HB
      have BK999 := n0_
      have BK1000 := n1_
      have BK1001 := n2_
      have HB := n3_
      clear n0_ n1_ n2_ n3_
      (try clear hb)
      (try clear hb2)
      (try clear hk)
      (try clear hi)
      refine hK.out _ _ ⟨(blk_cell BK999.out 0).trans rfl, (blk_cell BK999.out 1).trans rfl, (blk_cell BK999.out 2).trans rfl, (blk_cell BK999.out 3).trans rfl, (blk_cell BK1001.out 0).trans rfl, (blk_cell BK1001.out 1).trans rfl, (blk_cell BK1001.out 2).trans rfl, (blk_cell BK1001.out 3).trans rfl, (blk_cell BK1000.out 0).trans rfl, (blk_cell BK1000.out 1).trans rfl, (blk_cell BK1000.out 2).trans rfl, (blk_cell BK1000.out 3).trans rfl⟩ (fun hHeld => ?_)
      clear hK K
      refine norm_ (a' := ?_) ?_ ?_
      rotate_left
      ·show Act.put _ (some 29) _ = _
       simp only [Act.put, List.setIfInBounds_toArray, List.set_cons_zero, List.set_cons_succ, i64_w, i32_w]
       rfl
      refine pure_ (i := 9) (N := some 30) (v := ?_) (a' := ?_) #[true, true, true, true, true, true, true, true, true, true, false] rfl rfl (any_of HT_.out (by kernel_rfl)) (fun _ _ _ h => h) (Or.inl ⟨by rfl, ?_⟩) ?_ ?_
      rotate_left
      ·intro w'
       go_simp
       with_reducible rfl
      rotate_left
      ·simp only [Act.put, List.setIfInBounds_toArray, List.set_cons_zero, List.set_cons_succ, i64_w, i32_w]
       rfl
      refine pure_ (i := 10) (N := some 10) (v := ?_) (a' := ?_) #[true, true, true, true, true, true, true, true, true, true, true] rfl rfl (any_of HT_.out (by kernel_rfl)) (fun _ _ _ h => h) (Or.inl ⟨by rfl, ?_⟩) ?_ ?_
      rotate_left
      ·intro w'
       go_simp
       with_reducible rfl
      rotate_left
      ·simp only [Act.put, List.setIfInBounds_toArray, List.set_cons_zero, List.set_cons_succ, i64_w, i32_w]
       rfl
      refine done_ (done_of HT_.out (by kernel_rfl)) ?_
      have hnb49 := NB1001_999.out
      have hnc49 := NB999_1001.out
      have hnb50 := NB1001_1000.out
      have hnc50 := NB1000_1001.out
      have hcz51_0 := cz_ BK1001 0 rfl
      have hcz51_1 := cz_ BK1001 1 rfl
      have hcz51_2 := cz_ BK1001 2 rfl
      have hcz51_3 := cz_ BK1001 3 rfl
      have hfz51_0 := fz_ BK1001 0
      have hfz51_1 := fz_ BK1001 1
      have hfz51_2 := fz_ BK1001 2
      have hfz51_3 := fz_ BK1001 3
      try go_wp2_with (first | ((with_reducible refine gate_callee (f := 27) rfl ?_); refine gl_ (some 32) Try.func27 #[.agg #[.int .i64 a2_0, .bool a2_1, .int .u64 a2_2, .int .i64 a2_3]] ?_; (with_reducible refine (num_Sign.calls a2_0 a2_1 a2_2 a2_3 t1013 _ A23.out).mono ?_); rintro e w52 ⟨rfl, hb⟩; refine ⟨_, rfl, ?_⟩; have n0_ := kq_ BK999 hb; have n1_ := kq_ BK1000 hb; have n2_ := kq_ BK1001 hb; have n3_ := bq_ HB hb; clear BK999; clear BK1000; clear BK1001; clear HB; have BK999 := n0_; have BK1000 := n1_; have BK1001 := n2_; have HB := n3_; clear n0_ n1_ n2_ n3_; (try clear hb); (try clear hb2); (try clear hk); (try clear hi)))
      have n0_ := Aside0.mk (blk_drew BK999.out)
      have n1_ := Aside0.mk (blk_drew BK1000.out)
      have n2_ := Aside0.mk (blk_drew BK1001.out)
      have n3_ := Aside0.mk (below_drew1 HB.out)
      clear BK999
      clear BK1000
      clear BK1001
      clear HB
      have BK999 := n0_
      have BK1000 := n1_
      have BK1001 := n2_
      have HB := n3_
      clear n0_ n1_ n2_ n3_
      refine start_ (n := 14) (S := fun w' => w'.cell? ⟨gb999, 0, none⟩ = some (.int .i64 a0_0) ∧ w'.cell? ⟨gb999, 1, none⟩ = some (.bool a0_1) ∧ w'.cell? ⟨gb999, 2, none⟩ = some (.int .u64 a0_2) ∧ w'.cell? ⟨gb999, 3, none⟩ = some (.int .i64 a0_3) ∧ w'.cell? ⟨gb1001, 0, none⟩ = some (.int .i64 a2_0) ∧ w'.cell? ⟨gb1001, 1, none⟩ = some (.bool a2_1) ∧ w'.cell? ⟨gb1001, 2, none⟩ = some (.int .u64 a2_2) ∧ w'.cell? ⟨gb1001, 3, none⟩ = some (.int .i64 a2_3) ∧ w'.cell? ⟨gb1000, 0, none⟩ = some (.int .i64 a1_0) ∧ w'.cell? ⟨gb1000, 1, none⟩ = some (.bool a1_1) ∧ w'.cell? ⟨gb1000, 2, none⟩ = some (.int .u64 a1_2) ∧ w'.cell? ⟨gb1000, 3, none⟩ = some (.int .i64 a1_3)) (ds := []) #[false, false, false, false, false, false, false, false, false, false, false, false, false, false] (by kernel_rfl) rfl rfl ⟨(blk_cell BK999.out 0).trans rfl, (blk_cell BK999.out 1).trans rfl, (blk_cell BK999.out 2).trans rfl, (blk_cell BK999.out 3).trans rfl, (blk_cell BK1001.out 0).trans rfl, (blk_cell BK1001.out 1).trans rfl, (blk_cell BK1001.out 2).trans rfl, (blk_cell BK1001.out 3).trans rfl, (blk_cell BK1000.out 0).trans rfl, (blk_cell BK1000.out 1).trans rfl, (blk_cell BK1000.out 2).trans rfl, (blk_cell BK1000.out 3).trans rfl⟩ (fun hHeld => ?_); refine with_tabW peloruslaw06_ArithGrows.tab7 peloruslaw06_ArithGrows.bits7 (fun HT_ HW_ => ?_)
      generalize w52.drew = w53 at BK999 BK1000 BK1001 HB hHeld ⊢
      refine pure_ (i := 0) (N := some 47) (v := ?_) (a' := ?_) #[true, false, false, false, false, false, false, false, false, false, false, false, false, false] rfl rfl (any_of HT_.out (by kernel_rfl)) (fun _ _ _ h => h) (Or.inl ⟨by rfl, ?_⟩) ?_ ?_
      rotate_left
      ·intro w'
       go_simp
       with_reducible rfl
      rotate_left
      ·simp only [Act.put, List.setIfInBounds_toArray, List.set_cons_zero, List.set_cons_succ, i64_w, i32_w]
       rfl
      refine pure_ (i := 1) (N := some 48) (v := ?_) (a' := ?_) #[true, true, false, false, false, false, false, false, false, false, false, false, false, false] rfl rfl (any_of HT_.out (by kernel_rfl)) (fun _ _ _ h => h) (Or.inl ⟨by rfl, ?_⟩) ?_ ?_
      rotate_left
      ·intro w'
       go_simp
       with_reducible rfl
      rotate_left
      ·simp only [Act.put, List.setIfInBounds_toArray, List.set_cons_zero, List.set_cons_succ, i64_w, i32_w]
       rfl
      refine pure_ (i := 4) (N := some 51) (v := ?_) (a' := ?_) #[true, true, false, false, true, false, false, false, false, false, false, false, false, false] rfl rfl (any_of HT_.out (by kernel_rfl)) (fun _ _ _ h => h) (Or.inl ⟨by rfl, ?_⟩) ?_ ?_
      rotate_left
      ·intro w'
       go_simp
       with_reducible rfl
      rotate_left
      ·simp only [Act.put, List.setIfInBounds_toArray, List.set_cons_zero, List.set_cons_succ, i64_w, i32_w]
       rfl
      refine pure_ (i := 8) (N := some 55) (v := ?_) (a' := ?_) #[true, true, false, false, true, false, false, false, true, false, false, false, false, false] rfl rfl (any_of HT_.out (by kernel_rfl)) (fun _ _ _ h => h) (Or.inl ⟨by rfl, ?_⟩) ?_ ?_
      rotate_left
      ·intro w'
       go_simp
       with_reducible rfl
      rotate_left
      ·simp only [Act.put, List.setIfInBounds_toArray, List.set_cons_zero, List.set_cons_succ, i64_w, i32_w]
       rfl
      refine take_ (i := 2) (N := some 49) (v := ?_) (a' := ?_) #[true, true, true, false, true, false, false, false, true, false, false, false, false, false] rfl rfl (take_ofW HT_.out HW_.out (by kernel_rfl)) (fun _ _ _ h => h) (Or.inl ⟨by rfl, ?_⟩) hHeld ?_ ?_
      rotate_left
      ·rintro w' ⟨s0, s1, s2, s3, s4, s5, s6, s7, s8, s9, s10, s11⟩
       go_simp
       with_reducible rfl
      rotate_left
      ·simp only [Act.put, List.setIfInBounds_toArray, List.set_cons_zero, List.set_cons_succ, i64_w, i32_w]
       rfl
      refine take_ (i := 3) (N := some 50) (v := ?_) (a' := ?_) #[true, true, true, true, true, false, false, false, true, false, false, false, false, false] rfl rfl (take_ofW HT_.out HW_.out (by kernel_rfl)) (fun _ _ _ h => h) (Or.inl ⟨by rfl, ?_⟩) hHeld ?_ ?_
      rotate_left
      ·rintro w' ⟨s0, s1, s2, s3, s4, s5, s6, s7, s8, s9, s10, s11⟩
       go_simp
       with_reducible rfl
      rotate_left
      ·simp only [Act.put, List.setIfInBounds_toArray, List.set_cons_zero, List.set_cons_succ, i64_w, i32_w]
       rfl
      refine take_ (i := 6) (N := some 53) (v := ?_) (a' := ?_) #[true, true, true, true, true, false, true, false, true, false, false, false, false, false] rfl rfl (take_ofW HT_.out HW_.out (by kernel_rfl)) (fun _ _ _ h => h) (Or.inl ⟨by rfl, ?_⟩) hHeld ?_ ?_
      rotate_left
      ·rintro w' ⟨s0, s1, s2, s3, s4, s5, s6, s7, s8, s9, s10, s11⟩
       go_simp
       with_reducible rfl
      rotate_left
      ·simp only [Act.put, List.setIfInBounds_toArray, List.set_cons_zero, List.set_cons_succ, i64_w, i32_w]
       rfl
      refine take_ (i := 7) (N := some 54) (v := ?_) (a' := ?_) #[true, true, true, true, true, false, true, true, true, false, false, false, false, false] rfl rfl (take_ofW HT_.out HW_.out (by kernel_rfl)) (fun _ _ _ h => h) (Or.inl ⟨by rfl, ?_⟩) hHeld ?_ ?_
      rotate_left
      ·rintro w' ⟨s0, s1, s2, s3, s4, s5, s6, s7, s8, s9, s10, s11⟩
       go_simp
       with_reducible rfl
      rotate_left
      ·simp only [Act.put, List.setIfInBounds_toArray, List.set_cons_zero, List.set_cons_succ, i64_w, i32_w]
       rfl
      refine one_ (i := 5) (N := some 52) #[true, true, true, true, true, true, true, true, true, false, false, false, false, false] rfl rfl (one_of HT_.out (by kernel_rfl)) (by decide) (fun K hK => ?_)
      refine gs_ Try.func13 #[.agg #[.int .i64 a0_0, .bool a0_1, .int .u64 a0_2, .int .i64 a0_3], .agg #[.int .i64 a2_0, .bool a2_1, .int .u64 a2_2, .int .i64 a2_3], .bool a3] ?_
      with_reducible refine (arith_Mul.calls kj5 a0_0 a0_1 a0_2 a0_3 a2_0 a2_1 a2_2 a2_3 a3 t1023 t1024 t1025 t1026 _ A42.out).mono ?_
      rintro e w54 ⟨rfl, hb⟩
      refine ⟨_, rfl, ?_⟩
      have n0_ := kq_ BK999 hb
      have n1_ := kq_ BK1000 hb
      have n2_ := kq_ BK1001 hb
      have n3_ := bq_ HB hb
      clear BK999
      clear BK1000
      clear BK1001
      clear HB
      have BK999 := n0_
      have BK1000 := n1_
      have BK1001 := n2_
      have HB := n3_
      clear n0_ n1_ n2_ n3_
      (try clear hb)
      (try clear hb2)
      (try clear hk)
      (try clear hi)
      refine hK.out _ _ ⟨(blk_cell BK999.out 0).trans rfl, (blk_cell BK999.out 1).trans rfl, (blk_cell BK999.out 2).trans rfl, (blk_cell BK999.out 3).trans rfl, (blk_cell BK1001.out 0).trans rfl, (blk_cell BK1001.out 1).trans rfl, (blk_cell BK1001.out 2).trans rfl, (blk_cell BK1001.out 3).trans rfl, (blk_cell BK1000.out 0).trans rfl, (blk_cell BK1000.out 1).trans rfl, (blk_cell BK1000.out 2).trans rfl, (blk_cell BK1000.out 3).trans rfl⟩ (fun hHeld => ?_)
      clear hK K
      refine norm_ (a' := ?_) ?_ ?_
      rotate_left
      ·show Act.put _ (some 52) _ = _
       simp only [Act.put, List.setIfInBounds_toArray, List.set_cons_zero, List.set_cons_succ, i64_w, i32_w]
       rfl
      refine one_ (i := 9) (N := some 56) #[true, true, true, true, true, true, true, true, true, true, false, false, false, false] rfl rfl (one_of HT_.out (by kernel_rfl)) (by decide) (fun K hK => ?_)
      refine gs_ Try.func13 #[.agg #[.int .i64 a1_0, .bool a1_1, .int .u64 a1_2, .int .i64 a1_3], .agg #[.int .i64 a2_0, .bool a2_1, .int .u64 a2_2, .int .i64 a2_3], .bool a3] ?_
      with_reducible refine (arith_Mul.calls kj5 a1_0 a1_1 a1_2 a1_3 a2_0 a2_1 a2_2 a2_3 a3 t1027 t1028 t1029 t1030 _ A43.out).mono ?_
      rintro e w55 ⟨rfl, hb⟩
      refine ⟨_, rfl, ?_⟩
      have n0_ := kq_ BK999 hb
      have n1_ := kq_ BK1000 hb
      have n2_ := kq_ BK1001 hb
      have n3_ := bq_ HB hb
      clear BK999
      clear BK1000
      clear BK1001
      clear HB
      have BK999 := n0_
      have BK1000 := n1_
      have BK1001 := n2_
      have HB := n3_
      clear n0_ n1_ n2_ n3_
      (try clear hb)
      (try clear hb2)
      (try clear hk)
      (try clear hi)
      refine hK.out _ _ ⟨(blk_cell BK999.out 0).trans rfl, (blk_cell BK999.out 1).trans rfl, (blk_cell BK999.out 2).trans rfl, (blk_cell BK999.out 3).trans rfl, (blk_cell BK1001.out 0).trans rfl, (blk_cell BK1001.out 1).trans rfl, (blk_cell BK1001.out 2).trans rfl, (blk_cell BK1001.out 3).trans rfl, (blk_cell BK1000.out 0).trans rfl, (blk_cell BK1000.out 1).trans rfl, (blk_cell BK1000.out 2).trans rfl, (blk_cell BK1000.out 3).trans rfl⟩ (fun hHeld => ?_)
      clear hK K
      refine norm_ (a' := ?_) ?_ ?_
      rotate_left
      ·show Act.put _ (some 56) _ = _
       simp only [Act.put, List.setIfInBounds_toArray, List.set_cons_zero, List.set_cons_succ, i64_w, i32_w]
       rfl
      refine one_ (i := 10) (N := some 57) #[true, true, true, true, true, true, true, true, true, true, true, false, false, false] rfl rfl (one_of HT_.out (by kernel_rfl)) (by decide) (fun K hK => ?_)
      refine gs_ Try.func26 #[.agg #[.int .i64 t1023, .bool t1024, .int .u64 t1025, .int .i64 t1026], .agg #[.int .i64 t1027, .bool t1028, .int .u64 t1029, .int .i64 t1030]] ?_
      with_reducible refine (num_Cmp.calls t1023 t1024 t1025 t1026 t1027 t1028 t1029 t1030 t1031 _ A44.out).mono ?_
      rintro e w56 ⟨rfl, hb⟩
      refine ⟨_, rfl, ?_⟩
      have n0_ := kq_ BK999 hb
      have n1_ := kq_ BK1000 hb
      have n2_ := kq_ BK1001 hb
      have n3_ := bq_ HB hb
      clear BK999
      clear BK1000
      clear BK1001
      clear HB
      have BK999 := n0_
      have BK1000 := n1_
      have BK1001 := n2_
      have HB := n3_
      clear n0_ n1_ n2_ n3_
      (try clear hb)
      (try clear hb2)
      (try clear hk)
      (try clear hi)
      refine hK.out _ _ ⟨(blk_cell BK999.out 0).trans rfl, (blk_cell BK999.out 1).trans rfl, (blk_cell BK999.out 2).trans rfl, (blk_cell BK999.out 3).trans rfl, (blk_cell BK1001.out 0).trans rfl, (blk_cell BK1001.out 1).trans rfl, (blk_cell BK1001.out 2).trans rfl, (blk_cell BK1001.out 3).trans rfl, (blk_cell BK1000.out 0).trans rfl, (blk_cell BK1000.out 1).trans rfl, (blk_cell BK1000.out 2).trans rfl, (blk_cell BK1000.out 3).trans rfl⟩ (fun hHeld => ?_)
      clear hK K
      refine norm_ (a' := ?_) ?_ ?_
      rotate_left
      ·show Act.put _ (some 57) _ = _
       simp only [Act.put, List.setIfInBounds_toArray, List.set_cons_zero, List.set_cons_succ, i64_w, i32_w]
       rfl
      refine pure_ (i := 11) (N := some 58) (v := ?_) (a' := ?_) #[true, true, true, true, true, true, true, true, true, true, true, true, false, false] rfl rfl (any_of HT_.out (by kernel_rfl)) (fun _ _ _ h => h) (Or.inl ⟨by rfl, ?_⟩) ?_ ?_
      rotate_left
      ·intro w'
       go_simp
       with_reducible rfl
      rotate_left
      ·simp only [Act.put, List.setIfInBounds_toArray, List.set_cons_zero, List.set_cons_succ, i64_w, i32_w]
       rfl
      refine pure_ (i := 12) (N := some 59) (v := ?_) (a' := ?_) #[true, true, true, true, true, true, true, true, true, true, true, true, true, false] rfl rfl (any_of HT_.out (by kernel_rfl)) (fun _ _ _ h => h) (Or.inl ⟨by rfl, ?_⟩) ?_ ?_
      rotate_left
      ·intro w'
       go_simp
       with_reducible rfl
      rotate_left
      ·simp only [Act.put, List.setIfInBounds_toArray, List.set_cons_zero, List.set_cons_succ, i64_w, i32_w]
       rfl
      refine pure_ (i := 13) (N := some 8) (v := ?_) (a' := ?_) #[true, true, true, true, true, true, true, true, true, true, true, true, true, true] rfl rfl (any_of HT_.out (by kernel_rfl)) (fun _ _ _ h => h) (Or.inl ⟨by rfl, ?_⟩) ?_ ?_
      rotate_left
      ·intro w'
       go_simp
       with_reducible rfl
      rotate_left
      ·simp only [Act.put, List.setIfInBounds_toArray, List.set_cons_zero, List.set_cons_succ, i64_w, i32_w]
       rfl
      refine done_ (done_of HT_.out (by kernel_rfl)) ?_
      try go_wp2
      go_ret
      exact ⟨by first | rfl | (simp [errW_none, errW_some] <;> rfl) | (simp [*, errW_none, errW_some] <;> rfl), bw_ HB.out⟩
     ·rw [if_neg c41] at H
      have c41b0 : decide (t1012 ≤ 0) = false := decide_eq_false c41
      clear c41
      exact absurd ((Option.some.inj H).trans HRT_.out) (by simp)


end Go.Proofs.Ythlhogcnfaiphaa.PA
