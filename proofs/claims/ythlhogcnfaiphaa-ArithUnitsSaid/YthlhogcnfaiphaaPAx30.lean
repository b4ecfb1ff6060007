-- Laid by this work's own program; Lean checks it.
import Derived.Test.YthlhogcnfaiphaaPAx0
import Derived.Test.YthlhogcnfaiphaaPAx1
import Derived.Test.YthlhogcnfaiphaaPAx2
import Derived.Test.YthlhogcnfaiphaaPAx3
import Derived.Test.YthlhogcnfaiphaaPAx5
import Derived.Test.YthlhogcnfaiphaaPAx6
import Derived.Test.YthlhogcnfaiphaaPAx7
import Derived.Test.YthlhogcnfaiphaaPAx14
import Derived.Test.YthlhogcnfaiphaaPAx18
import Derived.Test.YthlhogcnfaiphaaPAx25
namespace Go.Proofs.Ythlhogcnfaiphaa.PA
open Go.RowKit Go.Proofs.YthlhogcnfaiphaaW.PrintWords Go.Proofs.YthlhogcnfaiphaaW.PrintLast Go.Proofs.YthlhogcnfaiphaaW.PrintMore
attribute [local go_sem] max2_int min2_int max_two min_two max_three min_three max_four min_four   -- for this text's walks alone
set_option linter.unusedVariables false
set_option linter.unusedSimpArgs false

attribute [local go_sem ↓ high] isSome_set_
attribute [local go_sem high] eqA24
/-! ### peloruslaw06_ArithUnits: function 7 -/
theorem peloruslaw06_ArithUnits.tab5 : rtab .any (opsOf Try.f7 5) = peloruslaw06_ArithUnits.T5 := by kernel_rfl
theorem peloruslaw06_ArithUnits.bits5 : waitsOk peloruslaw06_ArithUnits.T5.2 peloruslaw06_ArithUnits.B5 = true := by kernel_rfl
def peloruslaw06_ArithUnits.T7 : Bool × List (List Nat × List Nat) := (true, [([], []), ([0], [0]), ([1], [1]), ([1], [1]), ([1], [1]), ([2, 3, 4, 1, 1], [1, 2, 3, 4]), ([1], [1]), ([5, 6, 1], [1, 5, 6]), ([1, 7], [1, 7]), ([8, 5], [8]), ([9], [9]), ([9, 9], [9]), ([9], [9]), ([10, 11, 12, 11, 9], [9, 10, 11, 12]), ([9], [9]), ([13, 14, 9], [9, 13, 14]), ([9, 15], [9, 15]), ([16, 13], [16]), ([17], [17]), ([17], [17]), ([17], [17]), ([18, 19, 20, 17, 17], [17, 18, 19, 20]), ([17], [17]), ([21, 22, 17], [17, 21, 22]), ([17, 23], [17, 23]), ([24, 21], [24]), ([25], [25]), ([25], [25]), ([26, 27, 25, 25], [25, 26, 27]), ([25], [25]), ([28, 29, 28, 25], [25, 28, 29]), ([25], [25]), ([30, 31, 25], [25, 30, 31]), ([25, 32], [25, 32]), ([33, 30, 0, 1, 2, 3, 4, 5, 6, 7, 8, 9, 10, 11, 12, 13, 14, 15, 16, 17, 18, 19, 20, 21, 22, 23, 24, 25, 26, 27, 28, 29, 30, 31, 32, 33], [33])])
def peloruslaw06_ArithUnits.B7 : List Nat := [0, 1, 3, 3, 3, 31, 3, 127, 255, 511, 1023, 1023, 1023, 8191, 1023, 32767, 65535, 131071, 262143, 262143, 262143, 2097151, 262143, 8388607, 16777215, 33554431, 67108863, 67108863, 268435455, 67108863, 1073741823, 67108863, 4294967295, 8589934591, 17179869183]
theorem peloruslaw06_ArithUnits.tab7 : rtab .any (opsOf Try.f7 7) = peloruslaw06_ArithUnits.T7 := by kernel_rfl
theorem peloruslaw06_ArithUnits.bits7 : waitsOk peloruslaw06_ArithUnits.T7.2 peloruslaw06_ArithUnits.B7 = true := by kernel_rfl
set_option maxHeartbeats 8000000 in
set_option maxRecDepth 100000 in
theorem peloruslaw06_ArithUnits.calls (k : Nat) (a0_0 : Int) (a0_1 : Bool) (a0_2 : Int) (a0_3 : Int) (a1 : Bool) (r : Bool) (w : World) (hr_ : r = true) (haw_ : ∀ r, peloruslaw06_awake.f k = some r → r = true) (h : peloruslaw06_ArithUnits.f k a0_0 a0_1 a0_2 a0_3 a1 = some r) :
  Calls Try.prog 7 #[.agg #[.int .i64 a0_0, .bool a0_1, .int .u64 a0_2, .int .i64 a0_3], .bool a1] w fun e w' => e = .returned (.bool r) ∧ Below w.heap.size w w' := by
 have HRT_ := Aside0.mk hr_
 clear hr_
 have HAW_ := Aside0.mk haw_
 clear haw_
 have hu24 := Try.underlying24
 have HB := Aside0.mk (Below.refl w.heap.size w)
 have H : ((peloruslaw06_awake.f k).bind fun t947 => ((num_May.f a0_0 a0_1 a0_2 a0_3).bind fun t948 => (if t948 = true then (if a0_0 = 1 then (peloruslaw06_ArithUnits.j0 k a1 t947 (decide (a0_3 ≥ 1048576)) a0_0 a0_1 a0_2 a0_3) else (peloruslaw06_ArithUnits.j0 k a1 t947 false a0_0 a0_1 a0_2 a0_3)) else (peloruslaw06_ArithUnits.j0 k a1 t947 true a0_0 a0_1 a0_2 a0_3)))) = some r := h
 clear h
 replace H := Option.bind_eq_some_iff.mp H
 obtain ⟨t947, A30, H⟩ := H
 (try dsimp only at H)
 have A3 := Aside0.mk A30
 clear A30
 have HC4 := Aside0.mk H
 clear H
 go_enter Try.func7, Try.ntmps7
 go_upto_region 2 with (first | ((with_reducible refine gate_dst (N := 2) rfl ?_); refine bx_ 2 #[.int .i64 a0_0, .bool a0_1, .int .u64 a0_2, .int .i64 a0_3] 24 ?_; intro gb946 hg w5 hbox hb; have n0_ := bq_ HB hb; have n1_ := Aside0.mk (hbox); have n2_ := ge_ hg HB; have n3_ := ge_ hg HB; clear HB; have HB := n0_; have BK946 := n1_; have GW946 := n2_; have GE946 := n3_; clear n0_ n1_ n2_ n3_; clear hb hbox hg) | ((with_reducible refine gate_callee (f := 10) rfl ?_); refine gl_ (some 7) Try.func10 #[] ?_; (with_reducible refine (peloruslaw06_awake.calls k  t947 _ (HAW_.out _ A3.out) A3.out).mono ?_); rintro e w6 ⟨rfl, hb⟩; refine ⟨_, rfl, ?_⟩; have n0_ := kq_ BK946 hb; have n1_ := bq_ HB hb; clear BK946; clear HB; have BK946 := n0_; have HB := n1_; clear n0_ n1_; (try clear hb); (try clear hb2); (try clear hk); (try clear hi)))
 (try simp only [Act.put, List.setIfInBounds_toArray, List.set_cons_zero, List.set_cons_succ])
 go_cut [20] (fun v20 wc => ∃ (kq : Nat) (x20_3 : Bool), v20 = .bool x20_3 ∧ Aside0 (peloruslaw06_ArithUnits.j0 kq a1 t947 x20_3 a0_0 a0_1 a0_2 a0_3 = some r) ∧ Aside0 (kq ≤ k) ∧ Aside0 (wc.heap[gb946]? = some (.cells #[.int .i64 a0_0, .bool a0_1, .int .u64 a0_2, .int .i64 a0_3] 24 (0, 0))) ∧ Aside0 (Below w.heap.size w wc))
 case first =>
  have H := HC4.out
  clear HC4
  replace H := Option.bind_eq_some_iff.mp H
  obtain ⟨t948, A70, H⟩ := H
  (try dsimp only at H)
  have A7 := Aside0.mk A70
  clear A70
  by_cases c8 : t948 = true
  ·subst c8
   have H1 : (if a0_0 = 1 then (peloruslaw06_ArithUnits.j0 k a1 t947 (decide (a0_3 ≥ 1048576)) a0_0 a0_1 a0_2 a0_3) else (peloruslaw06_ArithUnits.j0 k a1 t947 false a0_0 a0_1 a0_2 a0_3)) = some r := by rw [if_pos rfl] at H; exact H
   clear H
   have H := H1
   clear H1
   by_cases c9 : a0_0 = 1
   ·rw [if_pos c9] at H
    have c9b0 : (a0_0 == 1) = true := beq_iff_eq.mpr c9
    have c9b1 : (a0_0 != 1) = false := bne_eq_false_iff_eq.mpr c9
    clear c9
    (first | rw [c9b0] | (simp only [i64_w, i32_w]; rw [c9b0]) | skip)
    have H' := Aside0.mk H
    clear H
    have hcz10_0 := cz_ BK946 0 rfl
    have hcz10_1 := cz_ BK946 1 rfl
    have hcz10_2 := cz_ BK946 2 rfl
    have hcz10_3 := cz_ BK946 3 rfl
    have hfz10_0 := fz_ BK946 0
    have hfz10_1 := fz_ BK946 1
    have hfz10_2 := fz_ BK946 2
    have hfz10_3 := fz_ BK946 3
    go_wp2_with (first | ((with_reducible refine gate_callee (f := 18) rfl ?_); refine gl_ (some 9) Try.func18 #[.agg #[.int .i64 a0_0, .bool a0_1, .int .u64 a0_2, .int .i64 a0_3]] ?_; (with_reducible refine (num_May.calls a0_0 a0_1 a0_2 a0_3 true _ A7.out).mono ?_); rintro e w11 ⟨rfl, hb⟩; refine ⟨_, rfl, ?_⟩; have n0_ := kq_ BK946 hb; have n1_ := bq_ HB hb; clear BK946; clear HB; have BK946 := n0_; have HB := n1_; clear n0_ n1_; (try clear hb); (try clear hb2); (try clear hk); (try clear hi); have hcz12_0 := cz_ BK946 0 rfl; have hcz12_1 := cz_ BK946 1 rfl; have hcz12_2 := cz_ BK946 2 rfl; have hcz12_3 := cz_ BK946 3 rfl; have hfz12_0 := fz_ BK946 0; have hfz12_1 := fz_ BK946 1; have hfz12_2 := fz_ BK946 2; have hfz12_3 := fz_ BK946 3))
    go_meet
    case rel => exact ⟨_, (decide (a0_3 ≥ 1048576)), (by first | rfl | (simp; done) | (simp [*]; done)), H', ⟨by first | omega | exact Nat.le_refl _⟩, ⟨kb_ BK946.out⟩, ⟨bw_ HB.out⟩⟩
   ·rw [if_neg c9] at H
    have c9b0 : (a0_0 == 1) = false := beq_eq_false_iff_ne.mpr c9
    have c9b1 : (a0_0 != 1) = true := bne_iff_ne.mpr c9
    (first | rw [c9b0] | (simp only [i64_w, i32_w]; rw [c9b0]) | skip)
    have H' := Aside0.mk H
    clear H
    have hcz13_0 := cz_ BK946 0 rfl
    have hcz13_1 := cz_ BK946 1 rfl
    have hcz13_2 := cz_ BK946 2 rfl
    have hcz13_3 := cz_ BK946 3 rfl
    have hfz13_0 := fz_ BK946 0
    have hfz13_1 := fz_ BK946 1
    have hfz13_2 := fz_ BK946 2
    have hfz13_3 := fz_ BK946 3
    go_wp2_with (first | ((with_reducible refine gate_callee (f := 18) rfl ?_); refine gl_ (some 9) Try.func18 #[.agg #[.int .i64 a0_0, .bool a0_1, .int .u64 a0_2, .int .i64 a0_3]] ?_; (with_reducible refine (num_May.calls a0_0 a0_1 a0_2 a0_3 true _ A7.out).mono ?_); rintro e w14 ⟨rfl, hb⟩; refine ⟨_, rfl, ?_⟩; have n0_ := kq_ BK946 hb; have n1_ := bq_ HB hb; clear BK946; clear HB; have BK946 := n0_; have HB := n1_; clear n0_ n1_; (try clear hb); (try clear hb2); (try clear hk); (try clear hi); have hcz15_0 := cz_ BK946 0 rfl; have hcz15_1 := cz_ BK946 1 rfl; have hcz15_2 := cz_ BK946 2 rfl; have hcz15_3 := cz_ BK946 3 rfl; have hfz15_0 := fz_ BK946 0; have hfz15_1 := fz_ BK946 1; have hfz15_2 := fz_ BK946 2; have hfz15_3 := fz_ BK946 3))
    go_meet
    case rel => exact ⟨_, (false), (by first | rfl | (simp; done) | (simp [*]; done)), H', ⟨by first | omega | exact Nat.le_refl _⟩, ⟨kb_ BK946.out⟩, ⟨bw_ HB.out⟩⟩
  ·replace c8 := Bool.eq_false_iff.mpr c8
   subst c8
   have H1 : (peloruslaw06_ArithUnits.j0 k a1 t947 true a0_0 a0_1 a0_2 a0_3) = some r := by rw [if_neg (show ¬ (false = true) by decide)] at H; exact H
   clear H
   have H := H1
   clear H1
   have H' := Aside0.mk H
   clear H
   have hcz16_0 := cz_ BK946 0 rfl
   have hcz16_1 := cz_ BK946 1 rfl
   have hcz16_2 := cz_ BK946 2 rfl
   have hcz16_3 := cz_ BK946 3 rfl
   have hfz16_0 := fz_ BK946 0
   have hfz16_1 := fz_ BK946 1
   have hfz16_2 := fz_ BK946 2
   have hfz16_3 := fz_ BK946 3
   go_wp2_with (first | ((with_reducible refine gate_callee (f := 18) rfl ?_); refine gl_ (some 9) Try.func18 #[.agg #[.int .i64 a0_0, .bool a0_1, .int .u64 a0_2, .int .i64 a0_3]] ?_; (with_reducible refine (num_May.calls a0_0 a0_1 a0_2 a0_3 false _ A7.out).mono ?_); rintro e w17 ⟨rfl, hb⟩; refine ⟨_, rfl, ?_⟩; have n0_ := kq_ BK946 hb; have n1_ := bq_ HB hb; clear BK946; clear HB; have BK946 := n0_; have HB := n1_; clear n0_ n1_; (try clear hb); (try clear hb2); (try clear hk); (try clear hi)))
   go_meet
   case rel => exact ⟨_, (true), (by first | rfl | (simp; done) | (simp [*]; done)), H', ⟨by first | omega | exact Nat.le_refl _⟩, ⟨kb_ BK946.out⟩, ⟨bw_ HB.out⟩⟩
 case rest =>
  clear HC4
  try clear c1
  try clear p2
  try clear c7
  try clear c8
  try clear c9
  try clear c9b0
  try clear c9b1
  try clear c10
  try clear hcz10_0
  try clear hcz10_1
  try clear hcz10_2
  try clear hcz10_3
  try clear hcz12_0
  try clear hcz12_1
  try clear hcz12_2
  try clear hcz12_3
  try clear hcz13_0
  try clear hcz13_1
  try clear hcz13_2
  try clear hcz13_3
  try clear hcz15_0
  try clear hcz15_1
  try clear hcz15_2
  try clear hcz15_3
  try clear hcz16_0
  try clear hcz16_1
  try clear hcz16_2
  try clear hcz16_3
  try clear hfz10_0
  try clear hfz10_1
  try clear hfz10_2
  try clear hfz10_3
  try clear hfz12_0
  try clear hfz12_1
  try clear hfz12_2
  try clear hfz12_3
  try clear hfz13_0
  try clear hfz13_1
  try clear hfz13_2
  try clear hfz13_3
  try clear hfz15_0
  try clear hfz15_1
  try clear hfz15_2
  try clear hfz15_3
  try clear hfz16_0
  try clear hfz16_1
  try clear hfz16_2
  try clear hfz16_3
  obtain ⟨kq, x20_3, rfl, HA, HJ3, BK946, HB⟩ := hcut
  cases kq with
  | zero => exact absurd HA.out (by simp [peloruslaw06_ArithUnits.j0])
  | succ kj3 =>
   have H := HA.out
   clear HA
   simp only [peloruslaw06_ArithUnits.j0] at H
   by_cases c18 : x20_3 = true
   ·subst c18
    have H1 : (some t947) = some r := by rw [if_pos rfl] at H; exact H
    clear H
    have H := H1
    clear H1
    obtain rfl := Option.some.inj H
    go_wp2
    go_ret
    exact ⟨by first | rfl | (simp [errW_none, errW_some] <;> rfl) | (simp [*, errW_none, errW_some] <;> rfl), bw_ HB.out⟩
   ·replace c18 := Bool.eq_false_iff.mpr c18
    subst c18
    have H1 : (if a0_0 = 2 then (peloruslaw06_ArithUnits.j1 kj3 a1 t947 false a0_0 a0_1 a0_2 a0_3 0 false 0 0) else ((arith_Sub.f kj3 a0_0 a0_1 a0_2 a0_3 a0_0 a0_1 a0_2 a0_3 a1).bind fun bt950 => (peloruslaw06_ArithUnits.j1 kj3 a1 t947 (!(bt950.1 == 0) || (bt950.2.1 || (!(bt950.2.2.1 == 0) || (!(bt950.2.2.2 == 0))))) a0_0 a0_1 a0_2 a0_3 0 false 0 0))) = some r := by rw [if_neg (show ¬ (false = true) by decide)] at H; exact H
    clear H
    have H := H1
    clear H1
    have HC19 := Aside0.mk H
    clear H
    go_upto_region 5 with (first | ((with_reducible refine gate_dst (N := 6) rfl ?_); refine bx_ 6 #[.int .i64 0, .bool false, .int .u64 0, .int .i64 0] 24 ?_; intro gb949 hg w20 hbox hb; have n0_ := kq_ BK946 hb; have n1_ := bq_ HB hb; have n2_ := Aside0.mk (hbox); have n3_ := ge_ hg HB; have n4_ := ge_ hg HB; have n5_ := nb_ hg BK946; have n6_ := nc_ hg BK946; clear BK946; clear HB; have BK946 := n0_; have HB := n1_; have BK949 := n2_; have GW949 := n3_; have GE949 := n4_; have NB946_949 := n5_; have NB949_946 := n6_; clear n0_ n1_ n2_ n3_ n4_ n5_ n6_; clear hb hbox hg; have hnb21 := NB949_946.out; have hnc21 := NB946_949.out; have hcz22_0 := cz_ BK949 0 rfl; have hcz22_1 := cz_ BK949 1 rfl; have hcz22_2 := cz_ BK949 2 rfl; have hcz22_3 := cz_ BK949 3 rfl; have hfz22_0 := fz_ BK949 0; have hfz22_1 := fz_ BK949 1; have hfz22_2 := fz_ BK949 2; have hfz22_3 := fz_ BK949 3))
    (try simp only [Act.put, List.setIfInBounds_toArray, List.set_cons_zero, List.set_cons_succ])
    go_cut [33] (fun v33 wc => ∃ (kq : Nat) (x33_18 : Bool), v33 = .bool x33_18 ∧ Aside0 (peloruslaw06_ArithUnits.j1 kq a1 t947 x33_18 a0_0 a0_1 a0_2 a0_3 0 false 0 0 = some r) ∧ Aside0 (kq ≤ kj3) ∧ Aside0 (wc.heap[gb946]? = some (.cells #[.int .i64 a0_0, .bool a0_1, .int .u64 a0_2, .int .i64 a0_3] 24 (0, 0))) ∧ Aside0 (wc.heap[gb949]? = some (.cells #[.int .i64 0, .bool false, .int .u64 0, .int .i64 0] 24 (0, 0))) ∧ Aside0 (Below w.heap.size w wc))
    case first =>
     have H := HC19.out
     clear HC19
     by_cases c23 : a0_0 = 2
     ·rw [if_pos c23] at H
      have c23b0 : (a0_0 == 2) = true := beq_iff_eq.mpr c23
      have c23b1 : (a0_0 != 2) = false := bne_eq_false_iff_eq.mpr c23
      clear c23
      (first | rw [c23b0] | (simp only [i64_w, i32_w]; rw [c23b0]) | skip)
      have H' := Aside0.mk H
      clear H
      try go_wp2
      have n0_ : Aside0 (((((w20.setCell ⟨gb949, 0, none⟩ (.int .i64 0)).setCell ⟨gb949, 1, none⟩ (.bool false)).setCell ⟨gb949, 2, none⟩ (.int .u64 0)).setCell ⟨gb949, 3, none⟩ (.int .i64 0)).heap[gb946]? = some (.cells #[.int .i64 a0_0, .bool a0_1, .int .u64 a0_2, .int .i64 a0_3] 24 (0, 0))) := ⟨by refine kb_ ?_; refine bf_ NB946_949 ?_; refine bf_ NB946_949 ?_; refine bf_ NB946_949 ?_; refine bf_ NB946_949 ?_; exact BK946.out⟩
      have n1_ : Aside0 (((((w20.setCell ⟨gb949, 0, none⟩ (.int .i64 0)).setCell ⟨gb949, 1, none⟩ (.bool false)).setCell ⟨gb949, 2, none⟩ (.int .u64 0)).setCell ⟨gb949, 3, none⟩ (.int .i64 0)).heap[gb949]? = some (.cells #[.int .i64 0, .bool false, .int .u64 0, .int .i64 0] 24 (0, 0))) := ⟨by refine kb_ ?_; refine bp_ #[.int .i64 0, .bool false, .int .u64 0, .int .i64 0] 3 ?_; refine bp_ #[.int .i64 0, .bool false, .int .u64 0, .int .i64 0] 2 ?_; refine bp_ #[.int .i64 0, .bool false, .int .u64 0, .int .i64 0] 1 ?_; refine bp_ #[.int .i64 0, .bool false, .int .u64 0, .int .i64 0] 0 ?_; exact BK949.out⟩
      have n2_ : Aside0 (Below w.heap.size w ((((w20.setCell ⟨gb949, 0, none⟩ (.int .i64 0)).setCell ⟨gb949, 1, none⟩ (.bool false)).setCell ⟨gb949, 2, none⟩ (.int .u64 0)).setCell ⟨gb949, 3, none⟩ (.int .i64 0))) := ⟨bw_ HB.out⟩
      (try clear BK946)
      (try clear BK949)
      (try clear HB)
      generalize ((((w20.setCell ⟨gb949, 0, none⟩ (.int .i64 0)).setCell ⟨gb949, 1, none⟩ (.bool false)).setCell ⟨gb949, 2, none⟩ (.int .u64 0)).setCell ⟨gb949, 3, none⟩ (.int .i64 0)) = w24 at n0_ n1_ n2_ ⊢
      have BK946 := n0_
      have BK949 := n1_
      have HB := n2_
      clear n0_ n1_ n2_
      have n0_ := Aside0.mk (blk_drew BK946.out)
      have n1_ := Aside0.mk (blk_drew BK949.out)
      have n2_ := Aside0.mk (below_drew1 HB.out)
      clear BK946
      clear BK949
      clear HB
      have BK946 := n0_
      have BK949 := n1_
      have HB := n2_
      clear n0_ n1_ n2_
      refine start_ (n := 11) (S := fun w' => w'.cell? ⟨gb946, 0, none⟩ = some (.int .i64 a0_0) ∧ w'.cell? ⟨gb946, 1, none⟩ = some (.bool a0_1) ∧ w'.cell? ⟨gb946, 2, none⟩ = some (.int .u64 a0_2) ∧ w'.cell? ⟨gb946, 3, none⟩ = some (.int .i64 a0_3)) (ds := []) #[false, false, false, false, false, false, false, false, false, false, false] (by kernel_rfl) rfl rfl ⟨(blk_cell BK946.out 0).trans rfl, (blk_cell BK946.out 1).trans rfl, (blk_cell BK946.out 2).trans rfl, (blk_cell BK946.out 3).trans rfl⟩ (fun hHeld => ?_); refine with_tabW peloruslaw06_ArithUnits.tab5 peloruslaw06_ArithUnits.bits5 (fun HT_ HW_ => ?_)
      generalize w24.drew = w25 at BK946 BK949 HB hHeld ⊢
      refine pure_ (i := 0) (N := some 23) (v := ?_) (a' := ?_) #[true, false, false, false, false, false, false, false, false, false, false] rfl rfl (any_of HT_.out (by kernel_rfl)) (fun _ _ _ h => h) (Or.inl ⟨by rfl, ?_⟩) ?_ ?_
      rotate_left
      ·intro w'
       go_simp
       with_reducible rfl
      rotate_left
      ·simp only [Act.put, List.setIfInBounds_toArray, List.set_cons_zero, List.set_cons_succ, i64_w, i32_w]
       rfl
      refine take_ (i := 1) (N := some 24) (v := ?_) (a' := ?_) #[true, true, false, false, false, false, false, false, false, false, false] rfl rfl (take_ofW HT_.out HW_.out (by kernel_rfl)) (fun _ _ _ h => h) (Or.inl ⟨by rfl, ?_⟩) hHeld ?_ ?_
      rotate_left
      ·rintro w' ⟨s0, s1, s2, s3⟩
       go_simp
       with_reducible rfl
      rotate_left
      ·simp only [Act.put, List.setIfInBounds_toArray, List.set_cons_zero, List.set_cons_succ, i64_w, i32_w]
       rfl
      refine pure_ (i := 2) (N := some 25) (v := ?_) (a' := ?_) #[true, true, true, false, false, false, false, false, false, false, false] rfl rfl (any_of HT_.out (by kernel_rfl)) (fun _ _ _ h => h) (Or.inl ⟨by rfl, ?_⟩) ?_ ?_
      rotate_left
      ·intro w'
       go_simp
       with_reducible rfl
      rotate_left
      ·simp only [Act.put, List.setIfInBounds_toArray, List.set_cons_zero, List.set_cons_succ, i64_w, i32_w]
       rfl
      refine pure_ (i := 3) (N := some 26) (v := ?_) (a' := ?_) #[true, true, true, true, false, false, false, false, false, false, false] rfl rfl (any_of HT_.out (by kernel_rfl)) (fun _ _ _ h => h) (Or.inl ⟨by rfl, ?_⟩) ?_ ?_
      rotate_left
      ·intro w'
       go_simp
       with_reducible rfl
      rotate_left
      ·simp only [Act.put, List.setIfInBounds_toArray, List.set_cons_zero, List.set_cons_succ, i64_w, i32_w]
       rfl
      refine pure_ (i := 4) (N := some 27) (v := undef) (a' := ?_) #[true, true, true, true, true, false, false, false, false, false, false] rfl rfl (any_of HT_.out (by kernel_rfl)) (fun _ _ _ h => h) (Or.inr ⟨by rfl, rfl⟩) ?_ ?_
      rotate_left
      ·simp only [Act.put, List.setIfInBounds_toArray, List.set_cons_zero, List.set_cons_succ, i64_w, i32_w]
       rfl
      refine pure_ (i := 5) (N := some 28) (v := undef) (a' := ?_) #[true, true, true, true, true, true, false, false, false, false, false] rfl rfl (any_of HT_.out (by kernel_rfl)) (fun _ _ _ h => h) (Or.inr ⟨by rfl, rfl⟩) ?_ ?_
      rotate_left
      ·simp only [Act.put, List.setIfInBounds_toArray, List.set_cons_zero, List.set_cons_succ, i64_w, i32_w]
       rfl
      refine pure_ (i := 6) (N := some 29) (v := undef) (a' := ?_) #[true, true, true, true, true, true, true, false, false, false, false] rfl rfl (any_of HT_.out (by kernel_rfl)) (fun _ _ _ h => h) (Or.inr ⟨by rfl, rfl⟩) ?_ ?_
      rotate_left
      ·simp only [Act.put, List.setIfInBounds_toArray, List.set_cons_zero, List.set_cons_succ, i64_w, i32_w]
       rfl
      refine pure_ (i := 7) (N := some 30) (v := undef) (a' := ?_) #[true, true, true, true, true, true, true, true, false, false, false] rfl rfl (any_of HT_.out (by kernel_rfl)) (fun _ _ _ h => h) (Or.inr ⟨by rfl, rfl⟩) ?_ ?_
      rotate_left
      ·simp only [Act.put, List.setIfInBounds_toArray, List.set_cons_zero, List.set_cons_succ, i64_w, i32_w]
       rfl
      refine pure_ (i := 8) (N := some 31) (v := undef) (a' := ?_) #[true, true, true, true, true, true, true, true, true, false, false] rfl rfl (any_of HT_.out (by kernel_rfl)) (fun _ _ _ h => h) (Or.inr ⟨by rfl, rfl⟩) ?_ ?_
      rotate_left
      ·simp only [Act.put, List.setIfInBounds_toArray, List.set_cons_zero, List.set_cons_succ, i64_w, i32_w]
       rfl
      refine pure_ (i := 9) (N := some 32) (v := undef) (a' := ?_) #[true, true, true, true, true, true, true, true, true, true, false] rfl rfl (any_of HT_.out (by kernel_rfl)) (fun _ _ _ h => h) (Or.inr ⟨by rfl, rfl⟩) ?_ ?_
      rotate_left
      ·simp only [Act.put, List.setIfInBounds_toArray, List.set_cons_zero, List.set_cons_succ, i64_w, i32_w]
       rfl
      refine pure_ (i := 10) (N := some 33) (v := ?_) (a' := ?_) #[true, true, true, true, true, true, true, true, true, true, true] rfl rfl (any_of HT_.out (by kernel_rfl)) (fun _ _ _ h => h) (Or.inl ⟨by rfl, ?_⟩) ?_ ?_
      rotate_left
      ·intro w'
       go_simp
       with_reducible rfl
      rotate_left
      ·simp only [Act.put, List.setIfInBounds_toArray, List.set_cons_zero, List.set_cons_succ, i64_w, i32_w]
       rfl
      refine done_ (done_of HT_.out (by kernel_rfl)) ?_
      try go_wp2
      go_meet
      case rel => exact ⟨_, (false), (by first | rfl | (simp; done) | (simp [*]; done)), H', ⟨by have := HJ3.out; first | omega | exact Nat.le_refl _⟩, ⟨kb_ BK946.out⟩, ⟨kb_ BK949.out⟩, ⟨bw_ HB.out⟩⟩
     ·rw [if_neg c23] at H
      have c23b0 : (a0_0 == 2) = false := beq_eq_false_iff_ne.mpr c23
      have c23b1 : (a0_0 != 2) = true := bne_iff_ne.mpr c23
      (first | rw [c23b0] | (simp only [i64_w, i32_w]; rw [c23b0]) | skip)
      replace H := Option.bind_eq_some_iff.mp H
      obtain ⟨⟨t950, t951, t952, t953⟩, A260, H⟩ := H
      (try dsimp only at H)
      have A26 := Aside0.mk A260
      clear A260
      have H' := Aside0.mk H
      clear H
      try go_wp2
      have n0_ : Aside0 (((((w20.setCell ⟨gb949, 0, none⟩ (.int .i64 0)).setCell ⟨gb949, 1, none⟩ (.bool false)).setCell ⟨gb949, 2, none⟩ (.int .u64 0)).setCell ⟨gb949, 3, none⟩ (.int .i64 0)).heap[gb946]? = some (.cells #[.int .i64 a0_0, .bool a0_1, .int .u64 a0_2, .int .i64 a0_3] 24 (0, 0))) := ⟨by refine kb_ ?_; refine bf_ NB946_949 ?_; refine bf_ NB946_949 ?_; refine bf_ NB946_949 ?_; refine bf_ NB946_949 ?_; exact BK946.out⟩
      have n1_ : Aside0 (((((w20.setCell ⟨gb949, 0, none⟩ (.int .i64 0)).setCell ⟨gb949, 1, none⟩ (.bool false)).setCell ⟨gb949, 2, none⟩ (.int .u64 0)).setCell ⟨gb949, 3, none⟩ (.int .i64 0)).heap[gb949]? = some (.cells #[.int .i64 0, .bool false, .int .u64 0, .int .i64 0] 24 (0, 0))) := ⟨by refine kb_ ?_; refine bp_ #[.int .i64 0, .bool false, .int .u64 0, .int .i64 0] 3 ?_; refine bp_ #[.int .i64 0, .bool false, .int .u64 0, .int .i64 0] 2 ?_; refine bp_ #[.int .i64 0, .bool false, .int .u64 0, .int .i64 0] 1 ?_; refine bp_ #[.int .i64 0, .bool false, .int .u64 0, .int .i64 0] 0 ?_; exact BK949.out⟩
      have n2_ : Aside0 (Below w.heap.size w ((((w20.setCell ⟨gb949, 0, none⟩ (.int .i64 0)).setCell ⟨gb949, 1, none⟩ (.bool false)).setCell ⟨gb949, 2, none⟩ (.int .u64 0)).setCell ⟨gb949, 3, none⟩ (.int .i64 0))) := ⟨bw_ HB.out⟩
      (try clear BK946)
      (try clear BK949)
      (try clear HB)
      generalize ((((w20.setCell ⟨gb949, 0, none⟩ (.int .i64 0)).setCell ⟨gb949, 1, none⟩ (.bool false)).setCell ⟨gb949, 2, none⟩ (.int .u64 0)).setCell ⟨gb949, 3, none⟩ (.int .i64 0)) = w27 at n0_ n1_ n2_ ⊢
      have BK946 := n0_
      have BK949 := n1_
      have HB := n2_
      clear n0_ n1_ n2_
      have n0_ := Aside0.mk (blk_drew BK946.out)
      have n1_ := Aside0.mk (blk_drew BK949.out)
      have n2_ := Aside0.mk (below_drew1 HB.out)
      clear BK946
      clear BK949
      clear HB
      have BK946 := n0_
      have BK949 := n1_
      have HB := n2_
      clear n0_ n1_ n2_
      refine start_ (n := 11) (S := fun w' => w'.cell? ⟨gb946, 0, none⟩ = some (.int .i64 a0_0) ∧ w'.cell? ⟨gb946, 1, none⟩ = some (.bool a0_1) ∧ w'.cell? ⟨gb946, 2, none⟩ = some (.int .u64 a0_2) ∧ w'.cell? ⟨gb946, 3, none⟩ = some (.int .i64 a0_3) ∧ w'.cell? ⟨gb949, 0, none⟩ = some (.int .i64 0) ∧ w'.cell? ⟨gb949, 1, none⟩ = some (.bool false) ∧ w'.cell? ⟨gb949, 2, none⟩ = some (.int .u64 0) ∧ w'.cell? ⟨gb949, 3, none⟩ = some (.int .i64 0)) (ds := []) #[false, false, false, false, false, false, false, false, false, false, false] (by kernel_rfl) rfl rfl ⟨(blk_cell BK946.out 0).trans rfl, (blk_cell BK946.out 1).trans rfl, (blk_cell BK946.out 2).trans rfl, (blk_cell BK946.out 3).trans rfl, (blk_cell BK949.out 0).trans rfl, (blk_cell BK949.out 1).trans rfl, (blk_cell BK949.out 2).trans rfl, (blk_cell BK949.out 3).trans rfl⟩ (fun hHeld => ?_); refine with_tabW peloruslaw06_ArithUnits.tab5 peloruslaw06_ArithUnits.bits5 (fun HT_ HW_ => ?_)
      generalize w27.drew = w28 at BK946 BK949 HB hHeld ⊢
      refine pure_ (i := 0) (N := some 23) (v := ?_) (a' := ?_) #[true, false, false, false, false, false, false, false, false, false, false] rfl rfl (any_of HT_.out (by kernel_rfl)) (fun _ _ _ h => h) (Or.inl ⟨by rfl, ?_⟩) ?_ ?_
      rotate_left
      ·intro w'
       go_simp
       with_reducible rfl
      rotate_left
      ·simp only [Act.put, List.setIfInBounds_toArray, List.set_cons_zero, List.set_cons_succ, i64_w, i32_w]
       rfl
      refine take_ (i := 1) (N := some 24) (v := ?_) (a' := ?_) #[true, true, false, false, false, false, false, false, false, false, false] rfl rfl (take_ofW HT_.out HW_.out (by kernel_rfl)) (fun _ _ _ h => h) (Or.inl ⟨by rfl, ?_⟩) hHeld ?_ ?_
      rotate_left
      ·rintro w' ⟨s0, s1, s2, s3, s4, s5, s6, s7⟩
       go_simp
       with_reducible rfl
      rotate_left
      ·simp only [Act.put, List.setIfInBounds_toArray, List.set_cons_zero, List.set_cons_succ, i64_w, i32_w]
       rfl
      refine pure_ (i := 2) (N := some 25) (v := ?_) (a' := ?_) #[true, true, true, false, false, false, false, false, false, false, false] rfl rfl (any_of HT_.out (by kernel_rfl)) (fun _ _ _ h => h) (Or.inl ⟨by rfl, ?_⟩) ?_ ?_
      rotate_left
      ·intro w'
       go_simp
       with_reducible rfl
      rotate_left
      ·simp only [Act.put, List.setIfInBounds_toArray, List.set_cons_zero, List.set_cons_succ, i64_w, i32_w]
       rfl
      refine pure_ (i := 3) (N := some 26) (v := ?_) (a' := ?_) #[true, true, true, true, false, false, false, false, false, false, false] rfl rfl (any_of HT_.out (by kernel_rfl)) (fun _ _ _ h => h) (Or.inl ⟨by rfl, ?_⟩) ?_ ?_
      rotate_left
      ·intro w'
       go_simp
       with_reducible rfl
      rotate_left
      ·simp only [Act.put, List.setIfInBounds_toArray, List.set_cons_zero, List.set_cons_succ, i64_w, i32_w]
       rfl
      refine pure_ (i := 6) (N := some 29) (v := ?_) (a' := ?_) #[true, true, true, true, false, false, true, false, false, false, false] rfl rfl (any_of HT_.out (by kernel_rfl)) (fun _ _ _ h => h) (Or.inl ⟨by rfl, ?_⟩) ?_ ?_
      rotate_left
      ·intro w'
       go_simp
       with_reducible rfl
      rotate_left
      ·simp only [Act.put, List.setIfInBounds_toArray, List.set_cons_zero, List.set_cons_succ, i64_w, i32_w]
       rfl
      refine take_ (i := 4) (N := some 27) (v := ?_) (a' := ?_) #[true, true, true, true, true, false, true, false, false, false, false] rfl rfl (take_ofW HT_.out HW_.out (by kernel_rfl)) (fun _ _ _ h => h) (Or.inl ⟨by rfl, ?_⟩) hHeld ?_ ?_
      rotate_left
      ·rintro w' ⟨s0, s1, s2, s3, s4, s5, s6, s7⟩
       go_simp
       with_reducible rfl
      rotate_left
      ·simp only [Act.put, List.setIfInBounds_toArray, List.set_cons_zero, List.set_cons_succ, i64_w, i32_w]
       rfl
      refine take_ (i := 5) (N := some 28) (v := ?_) (a' := ?_) #[true, true, true, true, true, true, true, false, false, false, false] rfl rfl (take_ofW HT_.out HW_.out (by kernel_rfl)) (fun _ _ _ h => h) (Or.inl ⟨by rfl, ?_⟩) hHeld ?_ ?_
      rotate_left
      ·rintro w' ⟨s0, s1, s2, s3, s4, s5, s6, s7⟩
       go_simp
       with_reducible rfl
      rotate_left
      ·simp only [Act.put, List.setIfInBounds_toArray, List.set_cons_zero, List.set_cons_succ, i64_w, i32_w]
       rfl
      refine take_ (i := 8) (N := some 31) (v := ?_) (a' := ?_) #[true, true, true, true, true, true, true, false, true, false, false] rfl rfl (take_ofW HT_.out HW_.out (by kernel_rfl)) (fun _ _ _ h => h) (Or.inl ⟨by rfl, ?_⟩) hHeld ?_ ?_
      rotate_left
      ·rintro w' ⟨s0, s1, s2, s3, s4, s5, s6, s7⟩
       go_simp
       with_reducible rfl
      rotate_left
      ·simp only [Act.put, List.setIfInBounds_toArray, List.set_cons_zero, List.set_cons_succ, i64_w, i32_w]
       rfl
      refine one_ (i := 7) (N := some 30) #[true, true, true, true, true, true, true, true, true, false, false] rfl rfl (one_of HT_.out (by kernel_rfl)) (by decide) (fun K hK => ?_)
      refine gs_ Try.func16 #[.agg #[.int .i64 a0_0, .bool a0_1, .int .u64 a0_2, .int .i64 a0_3], .agg #[.int .i64 a0_0, .bool a0_1, .int .u64 a0_2, .int .i64 a0_3], .bool a1] ?_
      with_reducible refine (arith_Sub.calls kj3 a0_0 a0_1 a0_2 a0_3 a0_0 a0_1 a0_2 a0_3 a1 t950 t951 t952 t953 _ A26.out).mono ?_
      rintro e w29 ⟨rfl, hb⟩
      refine ⟨_, rfl, ?_⟩
      have n0_ := kq_ BK946 hb
      have n1_ := kq_ BK949 hb
      have n2_ := bq_ HB hb
      clear BK946
      clear BK949
      clear HB
      have BK946 := n0_
      have BK949 := n1_
      have HB := n2_
      clear n0_ n1_ n2_
      (try clear hb)
      (try clear hb2)
      (try clear hk)
      (try clear hi)
      refine hK.out _ _ ⟨(blk_cell BK946.out 0).trans rfl, (blk_cell BK946.out 1).trans rfl, (blk_cell BK946.out 2).trans rfl, (blk_cell BK946.out 3).trans rfl, (blk_cell BK949.out 0).trans rfl, (blk_cell BK949.out 1).trans rfl, (blk_cell BK949.out 2).trans rfl, (blk_cell BK949.out 3).trans rfl⟩ (fun hHeld => ?_)
      clear hK K
      refine norm_ (a' := ?_) ?_ ?_
      rotate_left
      ·show Act.put _ (some 30) _ = _
       simp only [Act.put, List.setIfInBounds_toArray, List.set_cons_zero, List.set_cons_succ, i64_w, i32_w]
       rfl
      refine pure_ (i := 9) (N := some 32) (v := ?_) (a' := ?_) #[true, true, true, true, true, true, true, true, true, true, false] rfl rfl (any_of HT_.out (by kernel_rfl)) (fun _ _ _ h => h) (Or.inl ⟨by rfl, ?_⟩) ?_ ?_
      rotate_left
      ·intro w'
       go_simp
       with_reducible rfl
      rotate_left
      ·simp only [Act.put, List.setIfInBounds_toArray, List.set_cons_zero, List.set_cons_succ, i64_w, i32_w]
       rfl
      refine pure_ (i := 10) (N := some 33) (v := ?_) (a' := ?_) #[true, true, true, true, true, true, true, true, true, true, true] rfl rfl (any_of HT_.out (by kernel_rfl)) (fun _ _ _ h => h) (Or.inl ⟨by rfl, ?_⟩) ?_ ?_
      rotate_left
      ·intro w'
       go_simp
       with_reducible rfl
      rotate_left
      ·simp only [Act.put, List.setIfInBounds_toArray, List.set_cons_zero, List.set_cons_succ, i64_w, i32_w]
       rfl
      refine done_ (done_of HT_.out (by kernel_rfl)) ?_
      try go_wp2
      go_meet
      case rel => exact ⟨_, ((!(t950 == 0) || (t951 || (!(t952 == 0) || (!(t953 == 0)))))), (by first | rfl | (simp; done) | (simp [*]; done)), H', ⟨by have := HJ3.out; first | omega | exact Nat.le_refl _⟩, ⟨kb_ BK946.out⟩, ⟨kb_ BK949.out⟩, ⟨bw_ HB.out⟩⟩
    case rest =>
     clear HC19
     try clear c1
     try clear c2
     try clear p2
     try clear c7
     try clear c8
     try clear c9
     try clear c9b0
     try clear c9b1
     try clear c10
     try clear c16
     try clear c18
     try clear c21
     try clear c23
     try clear c23b0
     try clear c23b1
     try clear hcz10_0
     try clear hcz10_1
     try clear hcz10_2
     try clear hcz10_3
     try clear hcz12_0
     try clear hcz12_1
     try clear hcz12_2
     try clear hcz12_3
     try clear hcz13_0
     try clear hcz13_1
     try clear hcz13_2
     try clear hcz13_3
     try clear hcz15_0
     try clear hcz15_1
     try clear hcz15_2
     try clear hcz15_3
     try clear hcz16_0
     try clear hcz16_1
     try clear hcz16_2
     try clear hcz16_3
     try clear hcz22_0
     try clear hcz22_1
     try clear hcz22_2
     try clear hcz22_3
     try clear hfz10_0
     try clear hfz10_1
     try clear hfz10_2
     try clear hfz10_3
     try clear hfz12_0
     try clear hfz12_1
     try clear hfz12_2
     try clear hfz12_3
     try clear hfz13_0
     try clear hfz13_1
     try clear hfz13_2
     try clear hfz13_3
     try clear hfz15_0
     try clear hfz15_1
     try clear hfz15_2
     try clear hfz15_3
     try clear hfz16_0
     try clear hfz16_1
     try clear hfz16_2
     try clear hfz16_3
     try clear hfz22_0
     try clear hfz22_1
     try clear hfz22_2
     try clear hfz22_3
     try clear p2
     obtain ⟨kq, x33_18, rfl, HA, HJ18, BK946, BK949, HB⟩ := hcut
     cases kq with
     | zero => exact absurd HA.out (by simp [peloruslaw06_ArithUnits.j1])
     | succ kj18 =>
      have H := HA.out
      clear HA
      simp only [peloruslaw06_ArithUnits.j1] at H
      by_cases c30 : x33_18 = true
      ·subst c30
       have H1 : (some false) = some r := by rw [if_pos rfl] at H; exact H
       clear H
       have H := H1
       clear H1
       exact absurd ((Option.some.inj H).trans HRT_.out) (by simp)
      ·replace c30 := Bool.eq_false_iff.mpr c30
       subst c30
       have H1 : (if t947 = true then ((arith_Add.f kj18 a0_0 a0_1 a0_2 a0_3 0 false 0 0 a1).bind fun bt954 => (if (bt954.1 == a0_0 && (bt954.2.1 == a0_1 && (bt954.2.2.1 == a0_2 && (bt954.2.2.2 == a0_3)))) = true then ((num_Of.f kj18 1).bind fun bt958 => ((arith_Mul.f kj18 a0_0 a0_1 a0_2 a0_3 bt958.1 bt958.2.1 bt958.2.2.1 bt958.2.2.2 a1).bind fun bt962 => (if (bt962.1 == a0_0 && (bt962.2.1 == a0_1 && (bt962.2.2.1 == a0_2 && (bt962.2.2.2 == a0_3)))) = true then ((arith_Mul.f kj18 a0_0 a0_1 a0_2 a0_3 0 false 0 0 a1).bind fun bt966 => (if (bt966.1 == 0 && (bt966.2.1 == false && (bt966.2.2.1 == 0 && (bt966.2.2.2 == 0)))) = true then ((arith_Twice.f kj18 a0_0 a0_1 a0_2 a0_3 a1).bind fun bt970 => ((arith_Half.f kj18 bt970.1 bt970.2.1 bt970.2.2.1 bt970.2.2.2 a1).bind fun bt974 => (some (bt974.1 == a0_0 && (bt974.2.1 == a0_1 && (bt974.2.2.1 == a0_2 && (bt974.2.2.2 == a0_3))))))) else (some false))) else (some false)))) else (some false))) else (some false)) = some r := by rw [if_neg (show ¬ (false = true) by decide)] at H; exact H
       clear H
       have H := H1
       clear H1
       by_cases c31 : t947 = true
       ·subst c31
        have H1 : ((arith_Add.f kj18 a0_0 a0_1 a0_2 a0_3 0 false 0 0 a1).bind fun bt954 => (if (bt954.1 == a0_0 && (bt954.2.1 == a0_1 && (bt954.2.2.1 == a0_2 && (bt954.2.2.2 == a0_3)))) = true then ((num_Of.f kj18 1).bind fun bt958 => ((arith_Mul.f kj18 a0_0 a0_1 a0_2 a0_3 bt958.1 bt958.2.1 bt958.2.2.1 bt958.2.2.2 a1).bind fun bt962 => (if (bt962.1 == a0_0 && (bt962.2.1 == a0_1 && (bt962.2.2.1 == a0_2 && (bt962.2.2.2 == a0_3)))) = true then ((arith_Mul.f kj18 a0_0 a0_1 a0_2 a0_3 0 false 0 0 a1).bind fun bt966 => (if (bt966.1 == 0 && (bt966.2.1 == false && (bt966.2.2.1 == 0 && (bt966.2.2.2 == 0)))) = true then ((arith_Twice.f kj18 a0_0 a0_1 a0_2 a0_3 a1).bind fun bt970 => ((arith_Half.f kj18 bt970.1 bt970.2.1 bt970.2.2.1 bt970.2.2.2 a1).bind fun bt974 => (some (bt974.1 == a0_0 && (bt974.2.1 == a0_1 && (bt974.2.2.1 == a0_2 && (bt974.2.2.2 == a0_3))))))) else (some false))) else (some false)))) else (some false))) = some r := by rw [if_pos rfl] at H; exact H
        clear H
        have H := H1
        clear H1
        replace H := Option.bind_eq_some_iff.mp H
        obtain ⟨⟨t954, t955, t956, t957⟩, A320, H⟩ := H
        (try dsimp only at H)
        have A32 := Aside0.mk A320
        clear A320
        by_cases c33 : (t954 == a0_0 && (t955 == a0_1 && (t956 == a0_2 && (t957 == a0_3)))) = true
        ·rw [if_pos c33] at H
         have c33b0 : (t954 == a0_0 && (t955 == a0_1 && (t956 == a0_2 && (t957 == a0_3)))) = true := c33
         (try (have c33b1 : decide (t954 = a0_0 && (t955 == a0_1 && (t956 == a0_2 && (t957 == a0_3)))) = true := by simpa using c33))
         (try (have c33b2 : (t954 == a0_0 && (t955 == a0_1 && (t956 == a0_2 && (t957 == a0_3)))) = true := by simpa using c33))
         clear c33
         replace H := Option.bind_eq_some_iff.mp H
         obtain ⟨⟨t958, t959, t960, t961⟩, A340, H⟩ := H
         (try dsimp only at H)
         have A34 := Aside0.mk A340
         clear A340
         replace H := Option.bind_eq_some_iff.mp H
         obtain ⟨⟨t962, t963, t964, t965⟩, A350, H⟩ := H
         (try dsimp only at H)
         have A35 := Aside0.mk A350
         clear A350
         by_cases c36 : (t962 == a0_0 && (t963 == a0_1 && (t964 == a0_2 && (t965 == a0_3)))) = true
         ·rw [if_pos c36] at H
          have c36b0 : (t962 == a0_0 && (t963 == a0_1 && (t964 == a0_2 && (t965 == a0_3)))) = true := c36
          (try (have c36b1 : decide (t962 = a0_0 && (t963 == a0_1 && (t964 == a0_2 && (t965 == a0_3)))) = true := by simpa using c36))
          (try (have c36b2 : (t962 == a0_0 && (t963 == a0_1 && (t964 == a0_2 && (t965 == a0_3)))) = true := by simpa using c36))
          clear c36
          replace H := Option.bind_eq_some_iff.mp H
          obtain ⟨⟨t966, t967, t968, t969⟩, A370, H⟩ := H
          (try dsimp only at H)
          have A37 := Aside0.mk A370
          clear A370
          by_cases c38 : (t966 == 0 && (t967 == false && (t968 == 0 && (t969 == 0)))) = true
          ·rw [if_pos c38] at H
           have c38b0 : (t966 == 0 && (t967 == false && (t968 == 0 && (t969 == 0)))) = true := c38
           (try (have c38b9 : (t966 == 0 && (!t967 && (t968 == 0 && (t969 == 0)))) = true := by simpa using c38))
           (try (have c38b1 : decide (t966 = 0 && (t967 == false && (t968 == 0 && (t969 == 0)))) = true := by simpa using c38))
           (try (have c38b2 : (t966 == 0 && (t967 == false && (t968 == 0 && (t969 == 0)))) = true := by simpa using c38))
           clear c38
           replace H := Option.bind_eq_some_iff.mp H
           obtain ⟨⟨t970, t971, t972, t973⟩, A390, H⟩ := H
           (try dsimp only at H)
           have A39 := Aside0.mk A390
           clear A390
           replace H := Option.bind_eq_some_iff.mp H
           obtain ⟨⟨t974, t975, t976, t977⟩, A400, H⟩ := H
           (try dsimp only at H)
           have A40 := Aside0.mk A400
           clear A400
           obtain rfl := Option.some.inj H
           try go_wp2
           have n0_ := Aside0.mk (blk_drew BK946.out)
           have n1_ := Aside0.mk (blk_drew BK949.out)
           have n2_ := Aside0.mk (below_drew1 HB.out)
           clear BK946
           clear BK949
           clear HB
           have BK946 := n0_
           have BK949 := n1_
           have HB := n2_
           clear n0_ n1_ n2_
           refine start_ (n := 35) (S := fun w' => w'.cell? ⟨gb946, 0, none⟩ = some (.int .i64 a0_0) ∧ w'.cell? ⟨gb946, 1, none⟩ = some (.bool a0_1) ∧ w'.cell? ⟨gb946, 2, none⟩ = some (.int .u64 a0_2) ∧ w'.cell? ⟨gb946, 3, none⟩ = some (.int .i64 a0_3) ∧ w'.cell? ⟨gb949, 0, none⟩ = some (.int .i64 0) ∧ w'.cell? ⟨gb949, 1, none⟩ = some (.bool false) ∧ w'.cell? ⟨gb949, 2, none⟩ = some (.int .u64 0) ∧ w'.cell? ⟨gb949, 3, none⟩ = some (.int .i64 0)) (ds := []) #[false, false, false, false, false, false, false, false, false, false, false, false, false, false, false, false, false, false, false, false, false, false, false, false, false, false, false, false, false, false, false, false, false, false, false] (by kernel_rfl) rfl rfl ⟨(blk_cell BK946.out 0).trans rfl, (blk_cell BK946.out 1).trans rfl, (blk_cell BK946.out 2).trans rfl, (blk_cell BK946.out 3).trans rfl, (blk_cell BK949.out 0).trans rfl, (blk_cell BK949.out 1).trans rfl, (blk_cell BK949.out 2).trans rfl, (blk_cell BK949.out 3).trans rfl⟩ (fun hHeld => ?_); refine with_tabW peloruslaw06_ArithUnits.tab7 peloruslaw06_ArithUnits.bits7 (fun HT_ HW_ => ?_)
           generalize wc.drew = w41 at BK946 BK949 HB hHeld ⊢
           refine pure_ (i := 0) (N := some 34) (v := ?_) (a' := ?_) #[true, false, false, false, false, false, false, false, false, false, false, false, false, false, false, false, false, false, false, false, false, false, false, false, false, false, false, false, false, false, false, false, false, false, false] rfl rfl (any_of HT_.out (by kernel_rfl)) (fun _ _ _ h => h) (Or.inl ⟨by rfl, ?_⟩) ?_ ?_
           rotate_left
           ·intro w'
            go_simp
            with_reducible rfl
           rotate_left
           ·simp only [Act.put, List.setIfInBounds_toArray, List.set_cons_zero, List.set_cons_succ, i64_w, i32_w]
            rfl
           refine pure_ (i := 1) (N := some 35) (v := ?_) (a' := ?_) #[true, true, false, false, false, false, false, false, false, false, false, false, false, false, false, false, false, false, false, false, false, false, false, false, false, false, false, false, false, false, false, false, false, false, false] rfl rfl (any_of HT_.out (by kernel_rfl)) (fun _ _ _ h => h) (Or.inl ⟨by rfl, ?_⟩) ?_ ?_
           rotate_left
           ·intro w'
            go_simp
            with_reducible rfl
           rotate_left
           ·simp only [Act.put, List.setIfInBounds_toArray, List.set_cons_zero, List.set_cons_succ, i64_w, i32_w]
            rfl
           refine pure_ (i := 4) (N := some 38) (v := ?_) (a' := ?_) #[true, true, false, false, true, false, false, false, false, false, false, false, false, false, false, false, false, false, false, false, false, false, false, false, false, false, false, false, false, false, false, false, false, false, false] rfl rfl (any_of HT_.out (by kernel_rfl)) (fun _ _ _ h => h) (Or.inl ⟨by rfl, ?_⟩) ?_ ?_
           rotate_left
           ·intro w'
            go_simp
            with_reducible rfl
           rotate_left
           ·simp only [Act.put, List.setIfInBounds_toArray, List.set_cons_zero, List.set_cons_succ, i64_w, i32_w]
            rfl
           refine take_ (i := 2) (N := some 36) (v := ?_) (a' := ?_) #[true, true, true, false, true, false, false, false, false, false, false, false, false, false, false, false, false, false, false, false, false, false, false, false, false, false, false, false, false, false, false, false, false, false, false] rfl rfl (take_ofW HT_.out HW_.out (by kernel_rfl)) (fun _ _ _ h => h) (Or.inl ⟨by rfl, ?_⟩) hHeld ?_ ?_
           rotate_left
           ·rintro w' ⟨s0, s1, s2, s3, s4, s5, s6, s7⟩
            go_simp
            with_reducible rfl
           rotate_left
           ·simp only [Act.put, List.setIfInBounds_toArray, List.set_cons_zero, List.set_cons_succ, i64_w, i32_w]
            rfl
           refine take_ (i := 3) (N := some 37) (v := ?_) (a' := ?_) #[true, true, true, true, true, false, false, false, false, false, false, false, false, false, false, false, false, false, false, false, false, false, false, false, false, false, false, false, false, false, false, false, false, false, false] rfl rfl (take_ofW HT_.out HW_.out (by kernel_rfl)) (fun _ _ _ h => h) (Or.inl ⟨by rfl, ?_⟩) hHeld ?_ ?_
           rotate_left
           ·rintro w' ⟨s0, s1, s2, s3, s4, s5, s6, s7⟩
            go_simp
            with_reducible rfl
           rotate_left
           ·simp only [Act.put, List.setIfInBounds_toArray, List.set_cons_zero, List.set_cons_succ, i64_w, i32_w]
            rfl
           refine take_ (i := 6) (N := some 40) (v := ?_) (a' := ?_) #[true, true, true, true, true, false, true, false, false, false, false, false, false, false, false, false, false, false, false, false, false, false, false, false, false, false, false, false, false, false, false, false, false, false, false] rfl rfl (take_ofW HT_.out HW_.out (by kernel_rfl)) (fun _ _ _ h => h) (Or.inl ⟨by rfl, ?_⟩) hHeld ?_ ?_
           rotate_left
           ·rintro w' ⟨s0, s1, s2, s3, s4, s5, s6, s7⟩
            go_simp
            with_reducible rfl
           rotate_left
           ·simp only [Act.put, List.setIfInBounds_toArray, List.set_cons_zero, List.set_cons_succ, i64_w, i32_w]
            rfl
           refine one_ (i := 5) (N := some 39) #[true, true, true, true, true, true, true, false, false, false, false, false, false, false, false, false, false, false, false, false, false, false, false, false, false, false, false, false, false, false, false, false, false, false, false] rfl rfl (one_of HT_.out (by kernel_rfl)) (by decide) (fun K hK => ?_)
           refine gs_ Try.func11 #[.agg #[.int .i64 a0_0, .bool a0_1, .int .u64 a0_2, .int .i64 a0_3], .agg #[.int .i64 0, .bool false, .int .u64 0, .int .i64 0], .bool a1] ?_
           with_reducible refine (arith_Add.calls kj18 a0_0 a0_1 a0_2 a0_3 0 false 0 0 a1 t954 t955 t956 t957 _ A32.out).mono ?_
           rintro e w42 ⟨rfl, hb⟩
           refine ⟨_, rfl, ?_⟩
           have n0_ := kq_ BK946 hb
           have n1_ := kq_ BK949 hb
           have n2_ := bq_ HB hb
           clear BK946
           clear BK949
           clear HB
           have BK946 := n0_
           have BK949 := n1_
           have HB := n2_
           clear n0_ n1_ n2_
           (try clear hb)
           (try clear hb2)
           (try clear hk)
           (try clear hi)
           refine hK.out _ _ ⟨(blk_cell BK946.out 0).trans rfl, (blk_cell BK946.out 1).trans rfl, (blk_cell BK946.out 2).trans rfl, (blk_cell BK946.out 3).trans rfl, (blk_cell BK949.out 0).trans rfl, (blk_cell BK949.out 1).trans rfl, (blk_cell BK949.out 2).trans rfl, (blk_cell BK949.out 3).trans rfl⟩ (fun hHeld => ?_)
           clear hK K
           refine norm_ (a' := ?_) ?_ ?_
           rotate_left
           ·show Act.put _ (some 39) _ = _
            simp only [Act.put, List.setIfInBounds_toArray, List.set_cons_zero, List.set_cons_succ, i64_w, i32_w]
            rfl
           refine pure_ (i := 7) (N := some 41) (v := ?_) (a' := ?_) #[true, true, true, true, true, true, true, true, false, false, false, false, false, false, false, false, false, false, false, false, false, false, false, false, false, false, false, false, false, false, false, false, false, false, false] rfl rfl (any_of HT_.out (by kernel_rfl)) (fun _ _ _ h => h) (Or.inl ⟨by rfl, ?_⟩) ?_ ?_
           rotate_left
           ·intro w'
            go_simp
            with_reducible rfl
           rotate_left
           ·simp only [Act.put, List.setIfInBounds_toArray, List.set_cons_zero, List.set_cons_succ, i64_w, i32_w]
            rfl
           refine pure_ (i := 8) (N := some 42) (v := ?_) (a' := ?_) #[true, true, true, true, true, true, true, true, true, false, false, false, false, false, false, false, false, false, false, false, false, false, false, false, false, false, false, false, false, false, false, false, false, false, false] rfl rfl (any_of HT_.out (by kernel_rfl)) (fun _ _ _ h => h) (Or.inl ⟨by rfl, ?_⟩) ?_ ?_
           rotate_left
           ·intro w'
            go_simp
            with_reducible rfl
           rotate_left
           ·simp only [Act.put, List.setIfInBounds_toArray, List.set_cons_zero, List.set_cons_succ, i64_w, i32_w]
            rfl
           refine pure_ (i := 9) (N := some 43) (v := ?_) (a' := ?_) #[true, true, true, true, true, true, true, true, true, true, false, false, false, false, false, false, false, false, false, false, false, false, false, false, false, false, false, false, false, false, false, false, false, false, false] rfl rfl (any_of HT_.out (by kernel_rfl)) (fun _ _ _ h => h) (Or.inl ⟨by rfl, ?_⟩) ?_ ?_
           rotate_left
           ·intro w'
            go_simp
            with_reducible rfl
           rotate_left
           ·simp only [Act.put, List.setIfInBounds_toArray, List.set_cons_zero, List.set_cons_succ, i64_w, i32_w]
            rfl
           refine pure_ (i := 12) (N := some 46) (v := ?_) (a' := ?_) #[true, true, true, true, true, true, true, true, true, true, false, false, true, false, false, false, false, false, false, false, false, false, false, false, false, false, false, false, false, false, false, false, false, false, false] rfl rfl (any_of HT_.out (by kernel_rfl)) (fun _ _ _ h => h) (Or.inl ⟨by rfl, ?_⟩) ?_ ?_
           rotate_left
           ·intro w'
            go_simp
            with_reducible rfl
           rotate_left
           ·simp only [Act.put, List.setIfInBounds_toArray, List.set_cons_zero, List.set_cons_succ, i64_w, i32_w]
            rfl
           refine take_ (i := 10) (N := some 44) (v := ?_) (a' := ?_) #[true, true, true, true, true, true, true, true, true, true, true, false, true, false, false, false, false, false, false, false, false, false, false, false, false, false, false, false, false, false, false, false, false, false, false] rfl rfl (take_ofW HT_.out HW_.out (by kernel_rfl)) (fun _ _ _ h => h) (Or.inl ⟨by rfl, ?_⟩) hHeld ?_ ?_
           rotate_left
           ·rintro w' ⟨s0, s1, s2, s3, s4, s5, s6, s7⟩
            go_simp
            with_reducible rfl
           rotate_left
           ·simp only [Act.put, List.setIfInBounds_toArray, List.set_cons_zero, List.set_cons_succ, i64_w, i32_w]
            rfl
           refine take_ (i := 14) (N := some 48) (v := ?_) (a' := ?_) #[true, true, true, true, true, true, true, true, true, true, true, false, true, false, true, false, false, false, false, false, false, false, false, false, false, false, false, false, false, false, false, false, false, false, false] rfl rfl (take_ofW HT_.out HW_.out (by kernel_rfl)) (fun _ _ _ h => h) (Or.inl ⟨by rfl, ?_⟩) hHeld ?_ ?_
           rotate_left
           ·rintro w' ⟨s0, s1, s2, s3, s4, s5, s6, s7⟩
            go_simp
            with_reducible rfl
           rotate_left
           ·simp only [Act.put, List.setIfInBounds_toArray, List.set_cons_zero, List.set_cons_succ, i64_w, i32_w]
            rfl
           refine one_ (i := 11) (N := some 45) #[true, true, true, true, true, true, true, true, true, true, true, true, true, false, true, false, false, false, false, false, false, false, false, false, false, false, false, false, false, false, false, false, false, false, false] rfl rfl (one_of HT_.out (by kernel_rfl)) (by decide) (fun K hK => ?_)
           refine gs_ Try.func25 #[.int .i64 1] ?_
           with_reducible refine (num_Of.calls kj18 1 t958 t959 t960 t961 _ A34.out).mono ?_
           rintro e w43 ⟨rfl, hb⟩
           refine ⟨_, rfl, ?_⟩
           have n0_ := kq_ BK946 hb
           have n1_ := kq_ BK949 hb
           have n2_ := bq_ HB hb
           clear BK946
           clear BK949
           clear HB
           have BK946 := n0_
           have BK949 := n1_
           have HB := n2_
           clear n0_ n1_ n2_
           (try clear hb)
           (try clear hb2)
           (try clear hk)
           (try clear hi)
           refine hK.out _ _ ⟨(blk_cell BK946.out 0).trans rfl, (blk_cell BK946.out 1).trans rfl, (blk_cell BK946.out 2).trans rfl, (blk_cell BK946.out 3).trans rfl, (blk_cell BK949.out 0).trans rfl, (blk_cell BK949.out 1).trans rfl, (blk_cell BK949.out 2).trans rfl, (blk_cell BK949.out 3).trans rfl⟩ (fun hHeld => ?_)
           clear hK K
           refine norm_ (a' := ?_) ?_ ?_
           rotate_left
           ·show Act.put _ (some 45) _ = _
            simp only [Act.put, List.setIfInBounds_toArray, List.set_cons_zero, List.set_cons_succ, i64_w, i32_w]
            rfl
           refine one_ (i := 13) (N := some 47) #[true, true, true, true, true, true, true, true, true, true, true, true, true, true, true, false, false, false, false, false, false, false, false, false, false, false, false, false, false, false, false, false, false, false, false] rfl rfl (one_of HT_.out (by kernel_rfl)) (by decide) (fun K hK => ?_)
           refine gs_ Try.func13 #[.agg #[.int .i64 a0_0, .bool a0_1, .int .u64 a0_2, .int .i64 a0_3], .agg #[.int .i64 t958, .bool t959, .int .u64 t960, .int .i64 t961], .bool a1] ?_
           with_reducible refine (arith_Mul.calls kj18 a0_0 a0_1 a0_2 a0_3 t958 t959 t960 t961 a1 t962 t963 t964 t965 _ A35.out).mono ?_
           rintro e w44 ⟨rfl, hb⟩
           refine ⟨_, rfl, ?_⟩
           have n0_ := kq_ BK946 hb
           have n1_ := kq_ BK949 hb
           have n2_ := bq_ HB hb
           clear BK946
           clear BK949
           clear HB
           have BK946 := n0_
           have BK949 := n1_
           have HB := n2_
           clear n0_ n1_ n2_
           (try clear hb)
           (try clear hb2)
           (try clear hk)
           (try clear hi)
           refine hK.out _ _ ⟨(blk_cell BK946.out 0).trans rfl, (blk_cell BK946.out 1).trans rfl, (blk_cell BK946.out 2).trans rfl, (blk_cell BK946.out 3).trans rfl, (blk_cell BK949.out 0).trans rfl, (blk_cell BK949.out 1).trans rfl, (blk_cell BK949.out 2).trans rfl, (blk_cell BK949.out 3).trans rfl⟩ (fun hHeld => ?_)
           clear hK K
           refine norm_ (a' := ?_) ?_ ?_
           rotate_left
           ·show Act.put _ (some 47) _ = _
            simp only [Act.put, List.setIfInBounds_toArray, List.set_cons_zero, List.set_cons_succ, i64_w, i32_w]
            rfl
           refine pure_ (i := 15) (N := some 49) (v := ?_) (a' := ?_) #[true, true, true, true, true, true, true, true, true, true, true, true, true, true, true, true, false, false, false, false, false, false, false, false, false, false, false, false, false, false, false, false, false, false, false] rfl rfl (any_of HT_.out (by kernel_rfl)) (fun _ _ _ h => h) (Or.inl ⟨by rfl, ?_⟩) ?_ ?_
           rotate_left
           ·intro w'
            go_simp
            with_reducible rfl
           rotate_left
           ·simp only [Act.put, List.setIfInBounds_toArray, List.set_cons_zero, List.set_cons_succ, i64_w, i32_w]
            rfl
           refine pure_ (i := 16) (N := some 50) (v := ?_) (a' := ?_) #[true, true, true, true, true, true, true, true, true, true, true, true, true, true, true, true, true, false, false, false, false, false, false, false, false, false, false, false, false, false, false, false, false, false, false] rfl rfl (any_of HT_.out (by kernel_rfl)) (fun _ _ _ h => h) (Or.inl ⟨by rfl, ?_⟩) ?_ ?_
           rotate_left
           ·intro w'
            go_simp
            with_reducible rfl
           rotate_left
           ·simp only [Act.put, List.setIfInBounds_toArray, List.set_cons_zero, List.set_cons_succ, i64_w, i32_w]
            rfl
           refine pure_ (i := 17) (N := some 51) (v := ?_) (a' := ?_) #[true, true, true, true, true, true, true, true, true, true, true, true, true, true, true, true, true, true, false, false, false, false, false, false, false, false, false, false, false, false, false, false, false, false, false] rfl rfl (any_of HT_.out (by kernel_rfl)) (fun _ _ _ h => h) (Or.inl ⟨by rfl, ?_⟩) ?_ ?_
           rotate_left
           ·intro w'
            go_simp
            with_reducible rfl
           rotate_left
           ·simp only [Act.put, List.setIfInBounds_toArray, List.set_cons_zero, List.set_cons_succ, i64_w, i32_w]
            rfl
           refine pure_ (i := 20) (N := some 54) (v := ?_) (a' := ?_) #[true, true, true, true, true, true, true, true, true, true, true, true, true, true, true, true, true, true, false, false, true, false, false, false, false, false, false, false, false, false, false, false, false, false, false] rfl rfl (any_of HT_.out (by kernel_rfl)) (fun _ _ _ h => h) (Or.inl ⟨by rfl, ?_⟩) ?_ ?_
           rotate_left
           ·intro w'
            go_simp
            with_reducible rfl
           rotate_left
           ·simp only [Act.put, List.setIfInBounds_toArray, List.set_cons_zero, List.set_cons_succ, i64_w, i32_w]
            rfl
           refine take_ (i := 18) (N := some 52) (v := ?_) (a' := ?_) #[true, true, true, true, true, true, true, true, true, true, true, true, true, true, true, true, true, true, true, false, true, false, false, false, false, false, false, false, false, false, false, false, false, false, false] rfl rfl (take_ofW HT_.out HW_.out (by kernel_rfl)) (fun _ _ _ h => h) (Or.inl ⟨by rfl, ?_⟩) hHeld ?_ ?_
           rotate_left
           ·rintro w' ⟨s0, s1, s2, s3, s4, s5, s6, s7⟩
            go_simp
            with_reducible rfl
           rotate_left
           ·simp only [Act.put, List.setIfInBounds_toArray, List.set_cons_zero, List.set_cons_succ, i64_w, i32_w]
            rfl
           refine take_ (i := 19) (N := some 53) (v := ?_) (a' := ?_) #[true, true, true, true, true, true, true, true, true, true, true, true, true, true, true, true, true, true, true, true, true, false, false, false, false, false, false, false, false, false, false, false, false, false, false] rfl rfl (take_ofW HT_.out HW_.out (by kernel_rfl)) (fun _ _ _ h => h) (Or.inl ⟨by rfl, ?_⟩) hHeld ?_ ?_
           rotate_left
           ·rintro w' ⟨s0, s1, s2, s3, s4, s5, s6, s7⟩
            go_simp
            with_reducible rfl
           rotate_left
           ·simp only [Act.put, List.setIfInBounds_toArray, List.set_cons_zero, List.set_cons_succ, i64_w, i32_w]
            rfl
           refine take_ (i := 22) (N := some 56) (v := ?_) (a' := ?_) #[true, true, true, true, true, true, true, true, true, true, true, true, true, true, true, true, true, true, true, true, true, false, true, false, false, false, false, false, false, false, false, false, false, false, false] rfl rfl (take_ofW HT_.out HW_.out (by kernel_rfl)) (fun _ _ _ h => h) (Or.inl ⟨by rfl, ?_⟩) hHeld ?_ ?_
           rotate_left
           ·rintro w' ⟨s0, s1, s2, s3, s4, s5, s6, s7⟩
            go_simp
            with_reducible rfl
           rotate_left
           ·simp only [Act.put, List.setIfInBounds_toArray, List.set_cons_zero, List.set_cons_succ, i64_w, i32_w]
            rfl
           refine one_ (i := 21) (N := some 55) #[true, true, true, true, true, true, true, true, true, true, true, true, true, true, true, true, true, true, true, true, true, true, true, false, false, false, false, false, false, false, false, false, false, false, false] rfl rfl (one_of HT_.out (by kernel_rfl)) (by decide) (fun K hK => ?_)
           refine gs_ Try.func13 #[.agg #[.int .i64 a0_0, .bool a0_1, .int .u64 a0_2, .int .i64 a0_3], .agg #[.int .i64 0, .bool false, .int .u64 0, .int .i64 0], .bool a1] ?_
           with_reducible refine (arith_Mul.calls kj18 a0_0 a0_1 a0_2 a0_3 0 false 0 0 a1 t966 t967 t968 t969 _ A37.out).mono ?_
           rintro e w45 ⟨rfl, hb⟩
           refine ⟨_, rfl, ?_⟩
           have n0_ := kq_ BK946 hb
           have n1_ := kq_ BK949 hb
           have n2_ := bq_ HB hb
           clear BK946
           clear BK949
           clear HB
           have BK946 := n0_
           have BK949 := n1_
           have HB := n2_
           clear n0_ n1_ n2_
           (try clear hb)
           (try clear hb2)
           (try clear hk)
           (try clear hi)
           refine hK.out _ _ ⟨(blk_cell BK946.out 0).trans rfl, (blk_cell BK946.out 1).trans rfl, (blk_cell BK946.out 2).trans rfl, (blk_cell BK946.out 3).trans rfl, (blk_cell BK949.out 0).trans rfl, (blk_cell BK949.out 1).trans rfl, (blk_cell BK949.out 2).trans rfl, (blk_cell BK949.out 3).trans rfl⟩ (fun hHeld => ?_)
           clear hK K
           refine norm_ (a' := ?_) ?_ ?_
           rotate_left
           ·show Act.put _ (some 55) _ = _
            simp only [Act.put, List.setIfInBounds_toArray, List.set_cons_zero, List.set_cons_succ, i64_w, i32_w]
            rfl
           refine pure_ (i := 23) (N := some 57) (v := ?_) (a' := ?_) #[true, true, true, true, true, true, true, true, true, true, true, true, true, true, true, true, true, true, true, true, true, true, true, true, false, false, false, false, false, false, false, false, false, false, false] rfl rfl (any_of HT_.out (by kernel_rfl)) (fun _ _ _ h => h) (Or.inl ⟨by rfl, ?_⟩) ?_ ?_
           rotate_left
           ·intro w'
            go_simp
            with_reducible rfl
           rotate_left
           ·simp only [Act.put, List.setIfInBounds_toArray, List.set_cons_zero, List.set_cons_succ, i64_w, i32_w]
            rfl
           refine pure_ (i := 24) (N := some 58) (v := ?_) (a' := ?_) #[true, true, true, true, true, true, true, true, true, true, true, true, true, true, true, true, true, true, true, true, true, true, true, true, true, false, false, false, false, false, false, false, false, false, false] rfl rfl (any_of HT_.out (by kernel_rfl)) (fun _ _ _ h => h) (Or.inl ⟨by rfl, ?_⟩) ?_ ?_
           rotate_left
           ·intro w'
            go_simp
            with_reducible rfl
           rotate_left
           ·simp only [Act.put, List.setIfInBounds_toArray, List.set_cons_zero, List.set_cons_succ, i64_w, i32_w]
            rfl
           refine pure_ (i := 25) (N := some 59) (v := ?_) (a' := ?_) #[true, true, true, true, true, true, true, true, true, true, true, true, true, true, true, true, true, true, true, true, true, true, true, true, true, true, false, false, false, false, false, false, false, false, false] rfl rfl (any_of HT_.out (by kernel_rfl)) (fun _ _ _ h => h) (Or.inl ⟨by rfl, ?_⟩) ?_ ?_
           rotate_left
           ·intro w'
            go_simp
            with_reducible rfl
           rotate_left
           ·simp only [Act.put, List.setIfInBounds_toArray, List.set_cons_zero, List.set_cons_succ, i64_w, i32_w]
            rfl
           refine pure_ (i := 27) (N := some 61) (v := ?_) (a' := ?_) #[true, true, true, true, true, true, true, true, true, true, true, true, true, true, true, true, true, true, true, true, true, true, true, true, true, true, false, true, false, false, false, false, false, false, false] rfl rfl (any_of HT_.out (by kernel_rfl)) (fun _ _ _ h => h) (Or.inl ⟨by rfl, ?_⟩) ?_ ?_
           rotate_left
           ·intro w'
            go_simp
            with_reducible rfl
           rotate_left
           ·simp only [Act.put, List.setIfInBounds_toArray, List.set_cons_zero, List.set_cons_succ, i64_w, i32_w]
            rfl
           refine pure_ (i := 29) (N := some 63) (v := ?_) (a' := ?_) #[true, true, true, true, true, true, true, true, true, true, true, true, true, true, true, true, true, true, true, true, true, true, true, true, true, true, false, true, false, true, false, false, false, false, false] rfl rfl (any_of HT_.out (by kernel_rfl)) (fun _ _ _ h => h) (Or.inl ⟨by rfl, ?_⟩) ?_ ?_
           rotate_left
           ·intro w'
            go_simp
            with_reducible rfl
           rotate_left
           ·simp only [Act.put, List.setIfInBounds_toArray, List.set_cons_zero, List.set_cons_succ, i64_w, i32_w]
            rfl
           refine take_ (i := 26) (N := some 60) (v := ?_) (a' := ?_) #[true, true, true, true, true, true, true, true, true, true, true, true, true, true, true, true, true, true, true, true, true, true, true, true, true, true, true, true, false, true, false, false, false, false, false] rfl rfl (take_ofW HT_.out HW_.out (by kernel_rfl)) (fun _ _ _ h => h) (Or.inl ⟨by rfl, ?_⟩) hHeld ?_ ?_
           rotate_left
           ·rintro w' ⟨s0, s1, s2, s3, s4, s5, s6, s7⟩
            go_simp
            with_reducible rfl
           rotate_left
           ·simp only [Act.put, List.setIfInBounds_toArray, List.set_cons_zero, List.set_cons_succ, i64_w, i32_w]
            rfl
           refine take_ (i := 31) (N := some 65) (v := ?_) (a' := ?_) #[true, true, true, true, true, true, true, true, true, true, true, true, true, true, true, true, true, true, true, true, true, true, true, true, true, true, true, true, false, true, false, true, false, false, false] rfl rfl (take_ofW HT_.out HW_.out (by kernel_rfl)) (fun _ _ _ h => h) (Or.inl ⟨by rfl, ?_⟩) hHeld ?_ ?_
           rotate_left
           ·rintro w' ⟨s0, s1, s2, s3, s4, s5, s6, s7⟩
            go_simp
            with_reducible rfl
           rotate_left
           ·simp only [Act.put, List.setIfInBounds_toArray, List.set_cons_zero, List.set_cons_succ, i64_w, i32_w]
            rfl
           refine one_ (i := 28) (N := some 62) #[true, true, true, true, true, true, true, true, true, true, true, true, true, true, true, true, true, true, true, true, true, true, true, true, true, true, true, true, true, true, false, true, false, false, false] rfl rfl (one_of HT_.out (by kernel_rfl)) (by decide) (fun K hK => ?_)
           refine gs_ Try.func22 #[.agg #[.int .i64 a0_0, .bool a0_1, .int .u64 a0_2, .int .i64 a0_3], .bool a1] ?_
           with_reducible refine (arith_Twice.calls kj18 a0_0 a0_1 a0_2 a0_3 a1 t970 t971 t972 t973 _ A39.out).mono ?_
           rintro e w46 ⟨rfl, hb⟩
           refine ⟨_, rfl, ?_⟩
           have n0_ := kq_ BK946 hb
           have n1_ := kq_ BK949 hb
           have n2_ := bq_ HB hb
           clear BK946
           clear BK949
           clear HB
           have BK946 := n0_
           have BK949 := n1_
           have HB := n2_
           clear n0_ n1_ n2_
           (try clear hb)
           (try clear hb2)
           (try clear hk)
           (try clear hi)
           refine hK.out _ _ ⟨(blk_cell BK946.out 0).trans rfl, (blk_cell BK946.out 1).trans rfl, (blk_cell BK946.out 2).trans rfl, (blk_cell BK946.out 3).trans rfl, (blk_cell BK949.out 0).trans rfl, (blk_cell BK949.out 1).trans rfl, (blk_cell BK949.out 2).trans rfl, (blk_cell BK949.out 3).trans rfl⟩ (fun hHeld => ?_)
           clear hK K
           refine norm_ (a' := ?_) ?_ ?_
           rotate_left
           ·show Act.put _ (some 62) _ = _
            simp only [Act.put, List.setIfInBounds_toArray, List.set_cons_zero, List.set_cons_succ, i64_w, i32_w]
            rfl
           refine one_ (i := 30) (N := some 64) #[true, true, true, true, true, true, true, true, true, true, true, true, true, true, true, true, true, true, true, true, true, true, true, true, true, true, true, true, true, true, true, true, false, false, false] rfl rfl (one_of HT_.out (by kernel_rfl)) (by decide) (fun K hK => ?_)
           refine gs_ Try.func20 #[.agg #[.int .i64 t970, .bool t971, .int .u64 t972, .int .i64 t973], .bool a1] ?_
           with_reducible refine (arith_Half.calls kj18 t970 t971 t972 t973 a1 t974 t975 t976 t977 _ A40.out).mono ?_
           rintro e w47 ⟨rfl, hb⟩
           refine ⟨_, rfl, ?_⟩
           have n0_ := kq_ BK946 hb
           have n1_ := kq_ BK949 hb
           have n2_ := bq_ HB hb
           clear BK946
           clear BK949
           clear HB
           have BK946 := n0_
           have BK949 := n1_
           have HB := n2_
           clear n0_ n1_ n2_
           (try clear hb)
           (try clear hb2)
           (try clear hk)
           (try clear hi)
           refine hK.out _ _ ⟨(blk_cell BK946.out 0).trans rfl, (blk_cell BK946.out 1).trans rfl, (blk_cell BK946.out 2).trans rfl, (blk_cell BK946.out 3).trans rfl, (blk_cell BK949.out 0).trans rfl, (blk_cell BK949.out 1).trans rfl, (blk_cell BK949.out 2).trans rfl, (blk_cell BK949.out 3).trans rfl⟩ (fun hHeld => ?_)
           clear hK K
           refine norm_ (a' := ?_) ?_ ?_
           rotate_left
           ·show Act.put _ (some 64) _ = _
            simp only [Act.put, List.setIfInBounds_toArray, List.set_cons_zero, List.set_cons_succ, i64_w, i32_w]
            rfl
           refine pure_ (i := 32) (N := some 66) (v := ?_) (a' := ?_) #[true, true, true, true, true, true, true, true, true, true, true, true, true, true, true, true, true, true, true, true, true, true, true, true, true, true, true, true, true, true, true, true, true, false, false] rfl rfl (any_of HT_.out (by kernel_rfl)) (fun _ _ _ h => h) (Or.inl ⟨by rfl, ?_⟩) ?_ ?_
           rotate_left
           ·intro w'
            go_simp
            with_reducible rfl
           rotate_left
           ·simp only [Act.put, List.setIfInBounds_toArray, List.set_cons_zero, List.set_cons_succ, i64_w, i32_w]
            rfl
           refine pure_ (i := 33) (N := some 67) (v := ?_) (a' := ?_) #[true, true, true, true, true, true, true, true, true, true, true, true, true, true, true, true, true, true, true, true, true, true, true, true, true, true, true, true, true, true, true, true, true, true, false] rfl rfl (any_of HT_.out (by kernel_rfl)) (fun _ _ _ h => h) (Or.inl ⟨by rfl, ?_⟩) ?_ ?_
           rotate_left
           ·intro w'
            go_simp
            with_reducible rfl
           rotate_left
           ·simp only [Act.put, List.setIfInBounds_toArray, List.set_cons_zero, List.set_cons_succ, i64_w, i32_w]
            rfl
           refine pure_ (i := 34) (N := some 4) (v := ?_) (a' := ?_) #[true, true, true, true, true, true, true, true, true, true, true, true, true, true, true, true, true, true, true, true, true, true, true, true, true, true, true, true, true, true, true, true, true, true, true] rfl rfl (any_of HT_.out (by kernel_rfl)) (fun _ _ _ h => h) (Or.inl ⟨by rfl, ?_⟩) ?_ ?_
           rotate_left
           ·intro w'
            go_simp
            with_reducible rfl
           rotate_left
           ·simp only [Act.put, List.setIfInBounds_toArray, List.set_cons_zero, List.set_cons_succ, i64_w, i32_w]
            rfl
           refine done_ (done_of HT_.out (by kernel_rfl)) ?_
           try go_wp2
           go_ret
           exact ⟨by first | rfl | (simp [errW_none, errW_some] <;> rfl) | (simp [*, errW_none, errW_some] <;> rfl), bw_ HB.out⟩
          ·rw [if_neg c38] at H
           have c38b0 : (t966 == 0 && (t967 == false && (t968 == 0 && (t969 == 0)))) = false := by simpa using c38
           (try (have c38b9 : (t966 == 0 && (!t967 && (t968 == 0 && (t969 == 0)))) = false := by simpa using c38))
           (try (have c38b1 : decide (t966 = 0 && (t967 == false && (t968 == 0 && (t969 == 0)))) = false := by simpa using c38))
           (try (have c38b2 : (t966 == 0 && (t967 == false && (t968 == 0 && (t969 == 0)))) = false := by simpa using c38))
           (try (have c38b3 : ¬ (t966 = 0 && (t967 == false && (t968 == 0 && (t969 == 0)))) := by simpa using c38))
           clear c38
           exact absurd ((Option.some.inj H).trans HRT_.out) (by simp)
         ·rw [if_neg c36] at H
          have c36b0 : (t962 == a0_0 && (t963 == a0_1 && (t964 == a0_2 && (t965 == a0_3)))) = false := by simpa using c36
          (try (have c36b1 : decide (t962 = a0_0 && (t963 == a0_1 && (t964 == a0_2 && (t965 == a0_3)))) = false := by simpa using c36))
          (try (have c36b2 : (t962 == a0_0 && (t963 == a0_1 && (t964 == a0_2 && (t965 == a0_3)))) = false := by simpa using c36))
          (try (have c36b3 : ¬ (t962 = a0_0 && (t963 == a0_1 && (t964 == a0_2 && (t965 == a0_3)))) := by simpa using c36))
          clear c36
          exact absurd ((Option.some.inj H).trans HRT_.out) (by simp)
        ·rw [if_neg c33] at H
         have c33b0 : (t954 == a0_0 && (t955 == a0_1 && (t956 == a0_2 && (t957 == a0_3)))) = false := by simpa using c33
         (try (have c33b1 : decide (t954 = a0_0 && (t955 == a0_1 && (t956 == a0_2 && (t957 == a0_3)))) = false := by simpa using c33))
         (try (have c33b2 : (t954 == a0_0 && (t955 == a0_1 && (t956 == a0_2 && (t957 == a0_3)))) = false := by simpa using c33))
         (try (have c33b3 : ¬ (t954 = a0_0 && (t955 == a0_1 && (t956 == a0_2 && (t957 == a0_3)))) := by simpa using c33))
         clear c33
         exact absurd ((Option.some.inj H).trans HRT_.out) (by simp)
       ·replace c31 := Bool.eq_false_iff.mpr c31
        subst c31
        have H1 : (some false) = some r := by rw [if_neg (show ¬ (false = true) by decide)] at H; exact H
        clear H
        have H := H1
        clear H1
        exact absurd ((Option.some.inj H).trans HRT_.out) (by simp)


end Go.Proofs.Ythlhogcnfaiphaa.PA
