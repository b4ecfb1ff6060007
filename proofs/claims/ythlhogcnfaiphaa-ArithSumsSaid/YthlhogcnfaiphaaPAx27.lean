-- Laid by this work's own program; Lean checks it.
import Derived.Test.YthlhogcnfaiphaaPAx0
import Derived.Test.YthlhogcnfaiphaaPAx1
import Derived.Test.YthlhogcnfaiphaaPAx2
import Derived.Test.YthlhogcnfaiphaaPAx3
import Derived.Test.YthlhogcnfaiphaaPAx5
import Derived.Test.YthlhogcnfaiphaaPAx14
import Derived.Test.YthlhogcnfaiphaaPAx15
import Derived.Test.YthlhogcnfaiphaaPAx17
import Derived.Test.YthlhogcnfaiphaaPAx21
import Derived.Test.YthlhogcnfaiphaaPAx25
namespace Go.Proofs.Ythlhogcnfaiphaa.PA
open Go.RowKit Go.Proofs.YthlhogcnfaiphaaW.PrintWords Go.Proofs.YthlhogcnfaiphaaW.PrintLast Go.Proofs.YthlhogcnfaiphaaW.PrintMore
attribute [local go_sem] max2_int min2_int max_two min_two max_three min_three max_four min_four   -- for this text's walks alone
set_option linter.unusedVariables false
set_option linter.unusedSimpArgs false

attribute [local go_sem ↓ high] isSome_set_
attribute [local go_sem high] eqA24
/-! ### peloruslaw06_ArithSums: function 4 -/
theorem peloruslaw06_ArithSums.tab7 : rtab .any (opsOf Try.f4 7) = peloruslaw06_ArithSums.T7 := by kernel_rfl
theorem peloruslaw06_ArithSums.bits7 : waitsOk peloruslaw06_ArithSums.T7.2 peloruslaw06_ArithSums.B7 = true := by kernel_rfl
set_option maxHeartbeats 8000000 in
set_option maxRecDepth 100000 in
theorem peloruslaw06_ArithSums.calls (k : Nat) (a0_0 : Int) (a0_1 : Bool) (a0_2 : Int) (a0_3 : Int) (a1_0 : Int) (a1_1 : Bool) (a1_2 : Int) (a1_3 : Int) (a2 : Bool) (r : Bool) (w : World) (hr_ : r = true) (haw_ : ∀ r, peloruslaw06_awake.f k = some r → r = true) (h : peloruslaw06_ArithSums.f k a0_0 a0_1 a0_2 a0_3 a1_0 a1_1 a1_2 a1_3 a2 = some r) :
  Calls Try.prog 4 #[.agg #[.int .i64 a0_0, .bool a0_1, .int .u64 a0_2, .int .i64 a0_3], .agg #[.int .i64 a1_0, .bool a1_1, .int .u64 a1_2, .int .i64 a1_3], .bool a2] w fun e w' => e = .returned (.bool r) ∧ Below w.heap.size w w' := by
 have HRT_ := Aside0.mk hr_
 clear hr_
 have HAW_ := Aside0.mk haw_
 clear haw_
 have hu24 := Try.underlying24
 have HB := Aside0.mk (Below.refl w.heap.size w)
 have H : ((peloruslaw06_awake.f k).bind fun t727 => ((peloruslaw06_Few.f a0_0 a0_1 a0_2 a0_3).bind fun t728 => ((peloruslaw06_Few.f a1_0 a1_1 a1_2 a1_3).bind fun t729 => (if t727 = true then (if t728 = true then (peloruslaw06_ArithSums.j0 k a2 t727 (!t729) a0_0 a0_1 a0_2 a0_3 a1_0 a1_1 a1_2 a1_3) else (peloruslaw06_ArithSums.j0 k a2 t727 true a0_0 a0_1 a0_2 a0_3 a1_0 a1_1 a1_2 a1_3)) else (peloruslaw06_ArithSums.j0 k a2 t727 true a0_0 a0_1 a0_2 a0_3 a1_0 a1_1 a1_2 a1_3))))) = some r := h
 clear h
 replace H := Option.bind_eq_some_iff.mp H
 obtain ⟨t727, A40, H⟩ := H
 (try dsimp only at H)
 have A4 := Aside0.mk A40
 clear A40
 replace H := Option.bind_eq_some_iff.mp H
 obtain ⟨t728, A50, H⟩ := H
 (try dsimp only at H)
 have A5 := Aside0.mk A50
 clear A50
 replace H := Option.bind_eq_some_iff.mp H
 obtain ⟨t729, A60, H⟩ := H
 (try dsimp only at H)
 have A6 := Aside0.mk A60
 clear A60
 have HC7 := Aside0.mk H
 clear H
 go_enter Try.func4, Try.ntmps4
 go_upto_region 4 with (first | ((with_reducible refine gate_dst (N := 3) rfl ?_); refine bx_ 3 #[.int .i64 a0_0, .bool a0_1, .int .u64 a0_2, .int .i64 a0_3] 24 ?_; intro gb725 hg w8 hbox hb; have n0_ := bq_ HB hb; have n1_ := Aside0.mk (hbox); have n2_ := ge_ hg HB; have n3_ := ge_ hg HB; clear HB; have HB := n0_; have BK725 := n1_; have GW725 := n2_; have GE725 := n3_; clear n0_ n1_ n2_ n3_; clear hb hbox hg) | ((with_reducible refine gate_dst (N := 4) rfl ?_); refine bx_ 4 #[.int .i64 a1_0, .bool a1_1, .int .u64 a1_2, .int .i64 a1_3] 24 ?_; intro gb726 hg w9 hbox hb; have n0_ := kq_ BK725 hb; have n1_ := bq_ HB hb; have n2_ := Aside0.mk (hbox); have n3_ := ge_ hg HB; have n4_ := ge_ hg HB; have n5_ := nb_ hg BK725; have n6_ := nc_ hg BK725; clear BK725; clear HB; have BK725 := n0_; have HB := n1_; have BK726 := n2_; have GW726 := n3_; have GE726 := n4_; have NB725_726 := n5_; have NB726_725 := n6_; clear n0_ n1_ n2_ n3_ n4_ n5_ n6_; clear hb hbox hg) | ((with_reducible refine gate_callee (f := 10) rfl ?_); refine gl_ (some 11) Try.func10 #[] ?_; (with_reducible refine (peloruslaw06_awake.calls k  t727 _ (HAW_.out _ A4.out) A4.out).mono ?_); rintro e w10 ⟨rfl, hb⟩; refine ⟨_, rfl, ?_⟩; have n0_ := kq_ BK725 hb; have n1_ := kq_ BK726 hb; have n2_ := bq_ HB hb; clear BK725; clear BK726; clear HB; have BK725 := n0_; have BK726 := n1_; have HB := n2_; clear n0_ n1_ n2_; (try clear hb); (try clear hb2); (try clear hk); (try clear hi); have hnb11 := NB725_726.out; have hnc11 := NB726_725.out; have hcz12_0 := cz_ BK725 0 rfl; have hcz12_1 := cz_ BK725 1 rfl; have hcz12_2 := cz_ BK725 2 rfl; have hcz12_3 := cz_ BK725 3 rfl; have hfz12_0 := fz_ BK725 0; have hfz12_1 := fz_ BK725 1; have hfz12_2 := fz_ BK725 2; have hfz12_3 := fz_ BK725 3) | ((with_reducible refine gate_callee (f := 14) rfl ?_); refine gl_ (some 13) Try.func14 #[.agg #[.int .i64 a0_0, .bool a0_1, .int .u64 a0_2, .int .i64 a0_3]] ?_; (with_reducible refine (peloruslaw06_Few.calls a0_0 a0_1 a0_2 a0_3 t728 _ A5.out).mono ?_); rintro e w13 ⟨rfl, hb⟩; refine ⟨_, rfl, ?_⟩; have n0_ := kq_ BK725 hb; have n1_ := kq_ BK726 hb; have n2_ := bq_ HB hb; clear BK725; clear BK726; clear HB; have BK725 := n0_; have BK726 := n1_; have HB := n2_; clear n0_ n1_ n2_; (try clear hb); (try clear hb2); (try clear hk); (try clear hi); have hcz14_0 := cz_ BK726 0 rfl; have hcz14_1 := cz_ BK726 1 rfl; have hcz14_2 := cz_ BK726 2 rfl; have hcz14_3 := cz_ BK726 3 rfl; have hfz14_0 := fz_ BK726 0; have hfz14_1 := fz_ BK726 1; have hfz14_2 := fz_ BK726 2; have hfz14_3 := fz_ BK726 3) | ((with_reducible refine gate_callee (f := 14) rfl ?_); refine gl_ (some 15) Try.func14 #[.agg #[.int .i64 a1_0, .bool a1_1, .int .u64 a1_2, .int .i64 a1_3]] ?_; (with_reducible refine (peloruslaw06_Few.calls a1_0 a1_1 a1_2 a1_3 t729 _ A6.out).mono ?_); rintro e w15 ⟨rfl, hb⟩; refine ⟨_, rfl, ?_⟩; have n0_ := kq_ BK725 hb; have n1_ := kq_ BK726 hb; have n2_ := bq_ HB hb; clear BK725; clear BK726; clear HB; have BK725 := n0_; have BK726 := n1_; have HB := n2_; clear n0_ n1_ n2_; (try clear hb); (try clear hb2); (try clear hk); (try clear hi)))
 (try simp only [Act.put, List.setIfInBounds_toArray, List.set_cons_zero, List.set_cons_succ])
 go_cut [25] (fun v25 wc => ∃ (kq : Nat) (x25_6 : Bool), v25 = .bool x25_6 ∧ Aside0 (peloruslaw06_ArithSums.j0 kq a2 t727 x25_6 a0_0 a0_1 a0_2 a0_3 a1_0 a1_1 a1_2 a1_3 = some r) ∧ Aside0 (kq ≤ k) ∧ Aside0 (wc.heap[gb725]? = some (.cells #[.int .i64 a0_0, .bool a0_1, .int .u64 a0_2, .int .i64 a0_3] 24 (0, 0))) ∧ Aside0 (wc.heap[gb726]? = some (.cells #[.int .i64 a1_0, .bool a1_1, .int .u64 a1_2, .int .i64 a1_3] 24 (0, 0))) ∧ Aside0 (Below w.heap.size w wc))
 case first =>
  have H := HC7.out
  clear HC7
  by_cases c16 : t727 = true
  ·subst c16
   have H1 : (if t728 = true then (peloruslaw06_ArithSums.j0 k a2 true (!t729) a0_0 a0_1 a0_2 a0_3 a1_0 a1_1 a1_2 a1_3) else (peloruslaw06_ArithSums.j0 k a2 true true a0_0 a0_1 a0_2 a0_3 a1_0 a1_1 a1_2 a1_3)) = some r := by rw [if_pos rfl] at H; exact H
   clear H
   have H := H1
   clear H1
   by_cases c17 : t728 = true
   ·subst c17
    have H1 : (peloruslaw06_ArithSums.j0 k a2 true (!t729) a0_0 a0_1 a0_2 a0_3 a1_0 a1_1 a1_2 a1_3) = some r := by rw [if_pos rfl] at H; exact H
    clear H
    have H := H1
    clear H1
    have H' := Aside0.mk H
    clear H
    go_wp2
    go_meet
    case rel => exact ⟨_, (!t729), (by first | rfl | (simp; done) | (simp [*]; done)), H', ⟨by first | omega | exact Nat.le_refl _⟩, ⟨kb_ BK725.out⟩, ⟨kb_ BK726.out⟩, ⟨bw_ HB.out⟩⟩
   ·replace c17 := Bool.eq_false_iff.mpr c17
    subst c17
    have H1 : (peloruslaw06_ArithSums.j0 k a2 true true a0_0 a0_1 a0_2 a0_3 a1_0 a1_1 a1_2 a1_3) = some r := by rw [if_neg (show ¬ (false = true) by decide)] at H; exact H
    clear H
    have H := H1
    clear H1
    have H' := Aside0.mk H
    clear H
    go_wp2
    go_meet
    case rel => exact ⟨_, (true), (by first | rfl | (simp; done) | (simp [*]; done)), H', ⟨by first | omega | exact Nat.le_refl _⟩, ⟨kb_ BK725.out⟩, ⟨kb_ BK726.out⟩, ⟨bw_ HB.out⟩⟩
  ·replace c16 := Bool.eq_false_iff.mpr c16
   subst c16
   have H1 : (peloruslaw06_ArithSums.j0 k a2 false true a0_0 a0_1 a0_2 a0_3 a1_0 a1_1 a1_2 a1_3) = some r := by rw [if_neg (show ¬ (false = true) by decide)] at H; exact H
   clear H
   have H := H1
   clear H1
   have H' := Aside0.mk H
   clear H
   go_wp2
   go_meet
   case rel => exact ⟨_, (true), (by first | rfl | (simp; done) | (simp [*]; done)), H', ⟨by first | omega | exact Nat.le_refl _⟩, ⟨kb_ BK725.out⟩, ⟨kb_ BK726.out⟩, ⟨bw_ HB.out⟩⟩
 case rest =>
  clear HC7
  try clear c1
  try clear p2
  try clear c4
  try clear c10
  try clear c11
  try clear c14
  try clear c16
  try clear c17
  try clear hcz12_0
  try clear hcz12_1
  try clear hcz12_2
  try clear hcz12_3
  try clear hcz14_0
  try clear hcz14_1
  try clear hcz14_2
  try clear hcz14_3
  try clear hfz12_0
  try clear hfz12_1
  try clear hfz12_2
  try clear hfz12_3
  try clear hfz14_0
  try clear hfz14_1
  try clear hfz14_2
  try clear hfz14_3
  obtain ⟨kq, x25_6, rfl, HA, HJ6, BK725, BK726, HB⟩ := hcut
  cases kq with
  | zero => exact absurd HA.out (by simp [peloruslaw06_ArithSums.j0])
  | succ kj6 =>
   have H := HA.out
   clear HA
   simp only [peloruslaw06_ArithSums.j0] at H
   by_cases c18 : x25_6 = true
   ·subst c18
    have H1 : (some t727) = some r := by rw [if_pos rfl] at H; exact H
    clear H
    have H := H1
    clear H1
    obtain rfl := Option.some.inj H
    go_wp2
    go_ret
    exact ⟨by first | rfl | (simp [errW_none, errW_some] <;> rfl) | (simp [*, errW_none, errW_some] <;> rfl), bw_ HB.out⟩
   ·replace c18 := Bool.eq_false_iff.mpr c18
    subst c18
    have H1 : ((arith_Add.f kj6 a0_0 a0_1 a0_2 a0_3 a1_0 a1_1 a1_2 a1_3 a2).bind fun bt730 => ((pelorusref06_Add.f kj6 a0_0 a0_1 a0_2 a0_3 a1_0 a1_1 a1_2 a1_3 a2).bind fun bt735 => (if (bt730.1 == bt735.1 && (bt730.2.1 == bt735.2.1 && (bt730.2.2.1 == bt735.2.2.1 && (bt730.2.2.2 == bt735.2.2.2)))) = true then ((arith_Sub.f kj6 a0_0 a0_1 a0_2 a0_3 a1_0 a1_1 a1_2 a1_3 a2).bind fun bt739 => ((pelorusref06_Sub.f kj6 a0_0 a0_1 a0_2 a0_3 a1_0 a1_1 a1_2 a1_3 a2).bind fun bt743 => (if (bt739.1 == bt743.1 && (bt739.2.1 == bt743.2.1 && (bt739.2.2.1 == bt743.2.2.1 && (bt739.2.2.2 == bt743.2.2.2)))) = true then ((num_May.f bt730.1 bt730.2.1 bt730.2.2.1 bt730.2.2.2).bind fun t747 => (some t747)) else (some false)))) else (some false)))) = some r := by rw [if_neg (show ¬ (false = true) by decide)] at H; exact H
    clear H
    have H := H1
    clear H1
    replace H := Option.bind_eq_some_iff.mp H
    obtain ⟨⟨t730, t731, t732, t733⟩, A190, H⟩ := H
    (try dsimp only at H)
    have A19 := Aside0.mk A190
    clear A190
    replace H := Option.bind_eq_some_iff.mp H
    obtain ⟨⟨t735, t736, t737, t738⟩, A200, H⟩ := H
    (try dsimp only at H)
    have A20 := Aside0.mk A200
    clear A200
    by_cases c21 : (t730 == t735 && (t731 == t736 && (t732 == t737 && (t733 == t738)))) = true
    ·rw [if_pos c21] at H
     have c21b0 : (t730 == t735 && (t731 == t736 && (t732 == t737 && (t733 == t738)))) = true := c21
     (try (have c21b1 : decide (t730 = t735 && (t731 == t736 && (t732 == t737 && (t733 == t738)))) = true := by simpa using c21))
     (try (have c21b2 : (t730 == t735 && (t731 == t736 && (t732 == t737 && (t733 == t738)))) = true := by simpa using c21))
     clear c21
     replace H := Option.bind_eq_some_iff.mp H
     obtain ⟨⟨t739, t740, t741, t742⟩, A220, H⟩ := H
     (try dsimp only at H)
     have A22 := Aside0.mk A220
     clear A220
     replace H := Option.bind_eq_some_iff.mp H
     obtain ⟨⟨t743, t744, t745, t746⟩, A230, H⟩ := H
     (try dsimp only at H)
     have A23 := Aside0.mk A230
     clear A230
     by_cases c24 : (t739 == t743 && (t740 == t744 && (t741 == t745 && (t742 == t746)))) = true
     ·rw [if_pos c24] at H
      have c24b0 : (t739 == t743 && (t740 == t744 && (t741 == t745 && (t742 == t746)))) = true := c24
      (try (have c24b1 : decide (t739 = t743 && (t740 == t744 && (t741 == t745 && (t742 == t746)))) = true := by simpa using c24))
      (try (have c24b2 : (t739 == t743 && (t740 == t744 && (t741 == t745 && (t742 == t746)))) = true := by simpa using c24))
      clear c24
      replace H := Option.bind_eq_some_iff.mp H
      obtain ⟨t747, A250, H⟩ := H
      (try dsimp only at H)
      have A25 := Aside0.mk A250
      clear A250
      obtain rfl := Option.some.inj H
      have hnb26 := NB725_726.out
      have hnc26 := NB726_725.out
      have hcz27_0 := cz_ BK725 0 rfl
      have hcz27_1 := cz_ BK725 1 rfl
      have hcz27_2 := cz_ BK725 2 rfl
      have hcz27_3 := cz_ BK725 3 rfl
      have hfz27_0 := fz_ BK725 0
      have hfz27_1 := fz_ BK725 1
      have hfz27_2 := fz_ BK725 2
      have hfz27_3 := fz_ BK725 3
      have hcz28_0 := cz_ BK726 0 rfl
      have hcz28_1 := cz_ BK726 1 rfl
      have hcz28_2 := cz_ BK726 2 rfl
      have hcz28_3 := cz_ BK726 3 rfl
      have hfz28_0 := fz_ BK726 0
      have hfz28_1 := fz_ BK726 1
      have hfz28_2 := fz_ BK726 2
      have hfz28_3 := fz_ BK726 3
      try go_wp2_with (first | ((with_reducible refine gate_callee (f := 11) rfl ?_); refine gl_ (some 30) Try.func11 #[.agg #[.int .i64 a0_0, .bool a0_1, .int .u64 a0_2, .int .i64 a0_3], .agg #[.int .i64 a1_0, .bool a1_1, .int .u64 a1_2, .int .i64 a1_3], .bool a2] ?_; (with_reducible refine (arith_Add.calls kj6 a0_0 a0_1 a0_2 a0_3 a1_0 a1_1 a1_2 a1_3 a2 t730 t731 t732 t733 _ A19.out).mono ?_); rintro e w29 ⟨rfl, hb⟩; refine ⟨_, rfl, ?_⟩; have n0_ := kq_ BK725 hb; have n1_ := kq_ BK726 hb; have n2_ := bq_ HB hb; clear BK725; clear BK726; clear HB; have BK725 := n0_; have BK726 := n1_; have HB := n2_; clear n0_ n1_ n2_; (try clear hb); (try clear hb2); (try clear hk); (try clear hi)) | ((with_reducible refine gate_dst (N := 10) rfl ?_); refine bx_ 10 #[.int .i64 0, .bool false, .int .u64 0, .int .i64 0] 24 ?_; intro gb734 hg w30 hbox hb; have n0_ := kq_ BK725 hb; have n1_ := kq_ BK726 hb; have n2_ := bq_ HB hb; have n3_ := Aside0.mk (hbox); have n4_ := ge_ hg HB; have n5_ := ge_ hg HB; have n6_ := nb_ hg BK725; have n7_ := nc_ hg BK725; have n8_ := nb_ hg BK726; have n9_ := nc_ hg BK726; clear BK725; clear BK726; clear HB; have BK725 := n0_; have BK726 := n1_; have HB := n2_; have BK734 := n3_; have GW734 := n4_; have GE734 := n5_; have NB725_734 := n6_; have NB734_725 := n7_; have NB726_734 := n8_; have NB734_726 := n9_; clear n0_ n1_ n2_ n3_ n4_ n5_ n6_ n7_ n8_ n9_; clear hb hbox hg; have hnb31 := NB734_725.out; have hnc31 := NB725_734.out; have hnb32 := NB734_726.out; have hnc32 := NB726_734.out; have hcz33_0 := cz_ BK734 0 rfl; have hcz33_1 := cz_ BK734 1 rfl; have hcz33_2 := cz_ BK734 2 rfl; have hcz33_3 := cz_ BK734 3 rfl; have hfz33_0 := fz_ BK734 0; have hfz33_1 := fz_ BK734 1; have hfz33_2 := fz_ BK734 2; have hfz33_3 := fz_ BK734 3))
      have n0_ : Aside0 (((((w30.setCell ⟨gb734, 0, none⟩ (.int .i64 t730)).setCell ⟨gb734, 1, none⟩ (.bool t731)).setCell ⟨gb734, 2, none⟩ (.int .u64 t732)).setCell ⟨gb734, 3, none⟩ (.int .i64 t733)).heap[gb725]? = some (.cells #[.int .i64 a0_0, .bool a0_1, .int .u64 a0_2, .int .i64 a0_3] 24 (0, 0))) := ⟨by refine kb_ ?_; refine bf_ NB725_734 ?_; refine bf_ NB725_734 ?_; refine bf_ NB725_734 ?_; refine bf_ NB725_734 ?_; exact BK725.out⟩
      have n1_ : Aside0 (((((w30.setCell ⟨gb734, 0, none⟩ (.int .i64 t730)).setCell ⟨gb734, 1, none⟩ (.bool t731)).setCell ⟨gb734, 2, none⟩ (.int .u64 t732)).setCell ⟨gb734, 3, none⟩ (.int .i64 t733)).heap[gb726]? = some (.cells #[.int .i64 a1_0, .bool a1_1, .int .u64 a1_2, .int .i64 a1_3] 24 (0, 0))) := ⟨by refine kb_ ?_; refine bf_ NB726_734 ?_; refine bf_ NB726_734 ?_; refine bf_ NB726_734 ?_; refine bf_ NB726_734 ?_; exact BK726.out⟩
      have n2_ : Aside0 (((((w30.setCell ⟨gb734, 0, none⟩ (.int .i64 t730)).setCell ⟨gb734, 1, none⟩ (.bool t731)).setCell ⟨gb734, 2, none⟩ (.int .u64 t732)).setCell ⟨gb734, 3, none⟩ (.int .i64 t733)).heap[gb734]? = some (.cells #[.int .i64 t730, .bool t731, .int .u64 t732, .int .i64 t733] 24 (0, 0))) := ⟨by refine kb_ ?_; refine bp_ #[.int .i64 t730, .bool t731, .int .u64 t732, .int .i64 0] 3 ?_; refine bp_ #[.int .i64 t730, .bool t731, .int .u64 0, .int .i64 0] 2 ?_; refine bp_ #[.int .i64 t730, .bool false, .int .u64 0, .int .i64 0] 1 ?_; refine bp_ #[.int .i64 0, .bool false, .int .u64 0, .int .i64 0] 0 ?_; exact BK734.out⟩
      have n3_ : Aside0 (Below w.heap.size w ((((w30.setCell ⟨gb734, 0, none⟩ (.int .i64 t730)).setCell ⟨gb734, 1, none⟩ (.bool t731)).setCell ⟨gb734, 2, none⟩ (.int .u64 t732)).setCell ⟨gb734, 3, none⟩ (.int .i64 t733))) := ⟨bw_ HB.out⟩
      (try clear BK725)
      (try clear BK726)
      (try clear BK734)
      (try clear HB)
      generalize ((((w30.setCell ⟨gb734, 0, none⟩ (.int .i64 t730)).setCell ⟨gb734, 1, none⟩ (.bool t731)).setCell ⟨gb734, 2, none⟩ (.int .u64 t732)).setCell ⟨gb734, 3, none⟩ (.int .i64 t733)) = w34 at n0_ n1_ n2_ n3_ ⊢
      have BK725 := n0_
      have BK726 := n1_
      have BK734 := n2_
      have HB := n3_
      clear n0_ n1_ n2_ n3_
      have n0_ := Aside0.mk (blk_drew BK725.out)
      have n1_ := Aside0.mk (blk_drew BK726.out)
      have n2_ := Aside0.mk (blk_drew BK734.out)
      have n3_ := Aside0.mk (below_drew1 HB.out)
      clear BK725
      clear BK726
      clear BK734
      clear HB
      have BK725 := n0_
      have BK726 := n1_
      have BK734 := n2_
      have HB := n3_
      clear n0_ n1_ n2_ n3_
      refine start_ (n := 22) (S := fun w' => w'.cell? ⟨gb734, 0, none⟩ = some (.int .i64 t730) ∧ w'.cell? ⟨gb734, 1, none⟩ = some (.bool t731) ∧ w'.cell? ⟨gb734, 2, none⟩ = some (.int .u64 t732) ∧ w'.cell? ⟨gb734, 3, none⟩ = some (.int .i64 t733) ∧ w'.cell? ⟨gb725, 0, none⟩ = some (.int .i64 a0_0) ∧ w'.cell? ⟨gb725, 1, none⟩ = some (.bool a0_1) ∧ w'.cell? ⟨gb725, 2, none⟩ = some (.int .u64 a0_2) ∧ w'.cell? ⟨gb725, 3, none⟩ = some (.int .i64 a0_3) ∧ w'.cell? ⟨gb726, 0, none⟩ = some (.int .i64 a1_0) ∧ w'.cell? ⟨gb726, 1, none⟩ = some (.bool a1_1) ∧ w'.cell? ⟨gb726, 2, none⟩ = some (.int .u64 a1_2) ∧ w'.cell? ⟨gb726, 3, none⟩ = some (.int .i64 a1_3)) (ds := []) #[false, false, false, false, false, false, false, false, false, false, false, false, false, false, false, false, false, false, false, false, false, false] (by kernel_rfl) rfl rfl ⟨(blk_cell BK734.out 0).trans rfl, (blk_cell BK734.out 1).trans rfl, (blk_cell BK734.out 2).trans rfl, (blk_cell BK734.out 3).trans rfl, (blk_cell BK725.out 0).trans rfl, (blk_cell BK725.out 1).trans rfl, (blk_cell BK725.out 2).trans rfl, (blk_cell BK725.out 3).trans rfl, (blk_cell BK726.out 0).trans rfl, (blk_cell BK726.out 1).trans rfl, (blk_cell BK726.out 2).trans rfl, (blk_cell BK726.out 3).trans rfl⟩ (fun hHeld => ?_); refine with_tabW peloruslaw06_ArithSums.tab7 peloruslaw06_ArithSums.bits7 (fun HT_ HW_ => ?_)
      generalize w34.drew = w35 at BK725 BK726 BK734 HB hHeld ⊢
      refine pure_ (i := 3) (N := some 34) (v := ?_) (a' := ?_) #[false, false, false, true, false, false, false, false, false, false, false, false, false, false, false, false, false, false, false, false, false, false] rfl rfl (any_of HT_.out (by kernel_rfl)) (fun _ _ _ h => h) (Or.inl ⟨by rfl, ?_⟩) ?_ ?_
      rotate_left
      ·intro w'
       go_simp
       with_reducible rfl
      rotate_left
      ·simp only [Act.put, List.setIfInBounds_toArray, List.set_cons_zero, List.set_cons_succ, i64_w, i32_w]
       rfl
      refine take_ (i := 0) (N := some 31) (v := ?_) (a' := ?_) #[true, false, false, true, false, false, false, false, false, false, false, false, false, false, false, false, false, false, false, false, false, false] rfl rfl (take_ofW HT_.out HW_.out (by kernel_rfl)) (fun _ _ _ h => h) (Or.inl ⟨by rfl, ?_⟩) hHeld ?_ ?_
      rotate_left
      ·rintro w' ⟨s0, s1, s2, s3, s4, s5, s6, s7, s8, s9, s10, s11⟩
       go_simp
       with_reducible rfl
      rotate_left
      ·simp only [Act.put, List.setIfInBounds_toArray, List.set_cons_zero, List.set_cons_succ, i64_w, i32_w]
       rfl
      refine take_ (i := 1) (N := some 32) (v := ?_) (a' := ?_) #[true, true, false, true, false, false, false, false, false, false, false, false, false, false, false, false, false, false, false, false, false, false] rfl rfl (take_ofW HT_.out HW_.out (by kernel_rfl)) (fun _ _ _ h => h) (Or.inl ⟨by rfl, ?_⟩) hHeld ?_ ?_
      rotate_left
      ·rintro w' ⟨s0, s1, s2, s3, s4, s5, s6, s7, s8, s9, s10, s11⟩
       go_simp
       with_reducible rfl
      rotate_left
      ·simp only [Act.put, List.setIfInBounds_toArray, List.set_cons_zero, List.set_cons_succ, i64_w, i32_w]
       rfl
      refine take_ (i := 2) (N := some 33) (v := ?_) (a' := ?_) #[true, true, true, true, false, false, false, false, false, false, false, false, false, false, false, false, false, false, false, false, false, false] rfl rfl (take_ofW HT_.out HW_.out (by kernel_rfl)) (fun _ _ _ h => h) (Or.inl ⟨by rfl, ?_⟩) hHeld ?_ ?_
      rotate_left
      ·rintro w' ⟨s0, s1, s2, s3, s4, s5, s6, s7, s8, s9, s10, s11⟩
       go_simp
       with_reducible rfl
      rotate_left
      ·simp only [Act.put, List.setIfInBounds_toArray, List.set_cons_zero, List.set_cons_succ, i64_w, i32_w]
       rfl
      refine one_ (i := 4) (N := some 35) #[true, true, true, true, true, false, false, false, false, false, false, false, false, false, false, false, false, false, false, false, false, false] rfl rfl (one_of HT_.out (by kernel_rfl)) (by decide) (fun K hK => ?_)
      refine gs_ Try.func15 #[.agg #[.int .i64 a0_0, .bool a0_1, .int .u64 a0_2, .int .i64 a0_3], .agg #[.int .i64 a1_0, .bool a1_1, .int .u64 a1_2, .int .i64 a1_3], .bool a2] ?_
      with_reducible refine (pelorusref06_Add.calls kj6 a0_0 a0_1 a0_2 a0_3 a1_0 a1_1 a1_2 a1_3 a2 t735 t736 t737 t738 _ A20.out).mono ?_
      rintro e w36 ⟨rfl, hb⟩
      refine ⟨_, rfl, ?_⟩
      have n0_ := kq_ BK725 hb
      have n1_ := kq_ BK726 hb
      have n2_ := kq_ BK734 hb
      have n3_ := bq_ HB hb
      clear BK725
      clear BK726
      clear BK734
      clear HB
      have BK725 := n0_
      have BK726 := n1_
      have BK734 := n2_
      have HB := n3_
      clear n0_ n1_ n2_ n3_
      (try clear hb)
      (try clear hb2)
      (try clear hk)
      (try clear hi)
      refine hK.out _ _ ⟨(blk_cell BK734.out 0).trans rfl, (blk_cell BK734.out 1).trans rfl, (blk_cell BK734.out 2).trans rfl, (blk_cell BK734.out 3).trans rfl, (blk_cell BK725.out 0).trans rfl, (blk_cell BK725.out 1).trans rfl, (blk_cell BK725.out 2).trans rfl, (blk_cell BK725.out 3).trans rfl, (blk_cell BK726.out 0).trans rfl, (blk_cell BK726.out 1).trans rfl, (blk_cell BK726.out 2).trans rfl, (blk_cell BK726.out 3).trans rfl⟩ (fun hHeld => ?_)
      clear hK K
      refine norm_ (a' := ?_) ?_ ?_
      rotate_left
      ·show Act.put _ (some 35) _ = _
       simp only [Act.put, List.setIfInBounds_toArray, List.set_cons_zero, List.set_cons_succ, i64_w, i32_w]
       rfl
      refine pure_ (i := 5) (N := some 36) (v := ?_) (a' := ?_) #[true, true, true, true, true, true, false, false, false, false, false, false, false, false, false, false, false, false, false, false, false, false] rfl rfl (any_of HT_.out (by kernel_rfl)) (fun _ _ _ h => h) (Or.inl ⟨by rfl, ?_⟩) ?_ ?_
      rotate_left
      ·intro w'
       go_simp
       with_reducible rfl
      rotate_left
      ·simp only [Act.put, List.setIfInBounds_toArray, List.set_cons_zero, List.set_cons_succ, i64_w, i32_w]
       rfl
      refine pure_ (i := 6) (N := some 37) (v := ?_) (a' := ?_) #[true, true, true, true, true, true, true, false, false, false, false, false, false, false, false, false, false, false, false, false, false, false] rfl rfl (any_of HT_.out (by kernel_rfl)) (fun _ _ _ h => h) (Or.inl ⟨by rfl, ?_⟩) ?_ ?_
      rotate_left
      ·intro w'
       go_simp
       with_reducible rfl
      rotate_left
      ·simp only [Act.put, List.setIfInBounds_toArray, List.set_cons_zero, List.set_cons_succ, i64_w, i32_w]
       rfl
      refine pure_ (i := 9) (N := some 40) (v := ?_) (a' := ?_) #[true, true, true, true, true, true, true, false, false, true, false, false, false, false, false, false, false, false, false, false, false, false] rfl rfl (any_of HT_.out (by kernel_rfl)) (fun _ _ _ h => h) (Or.inl ⟨by rfl, ?_⟩) ?_ ?_
      rotate_left
      ·intro w'
       go_simp
       with_reducible rfl
      rotate_left
      ·simp only [Act.put, List.setIfInBounds_toArray, List.set_cons_zero, List.set_cons_succ, i64_w, i32_w]
       rfl
      refine pure_ (i := 13) (N := some 44) (v := ?_) (a' := ?_) #[true, true, true, true, true, true, true, false, false, true, false, false, false, true, false, false, false, false, false, false, false, false] rfl rfl (any_of HT_.out (by kernel_rfl)) (fun _ _ _ h => h) (Or.inl ⟨by rfl, ?_⟩) ?_ ?_
      rotate_left
      ·intro w'
       go_simp
       with_reducible rfl
      rotate_left
      ·simp only [Act.put, List.setIfInBounds_toArray, List.set_cons_zero, List.set_cons_succ, i64_w, i32_w]
       rfl
      refine take_ (i := 7) (N := some 38) (v := ?_) (a' := ?_) #[true, true, true, true, true, true, true, true, false, true, false, false, false, true, false, false, false, false, false, false, false, false] rfl rfl (take_ofW HT_.out HW_.out (by kernel_rfl)) (fun _ _ _ h => h) (Or.inl ⟨by rfl, ?_⟩) hHeld ?_ ?_
      rotate_left
      ·rintro w' ⟨s0, s1, s2, s3, s4, s5, s6, s7, s8, s9, s10, s11⟩
       go_simp
       with_reducible rfl
      rotate_left
      ·simp only [Act.put, List.setIfInBounds_toArray, List.set_cons_zero, List.set_cons_succ, i64_w, i32_w]
       rfl
      refine take_ (i := 8) (N := some 39) (v := ?_) (a' := ?_) #[true, true, true, true, true, true, true, true, true, true, false, false, false, true, false, false, false, false, false, false, false, false] rfl rfl (take_ofW HT_.out HW_.out (by kernel_rfl)) (fun _ _ _ h => h) (Or.inl ⟨by rfl, ?_⟩) hHeld ?_ ?_
      rotate_left
      ·rintro w' ⟨s0, s1, s2, s3, s4, s5, s6, s7, s8, s9, s10, s11⟩
       go_simp
       with_reducible rfl
      rotate_left
      ·simp only [Act.put, List.setIfInBounds_toArray, List.set_cons_zero, List.set_cons_succ, i64_w, i32_w]
       rfl
      refine take_ (i := 11) (N := some 42) (v := ?_) (a' := ?_) #[true, true, true, true, true, true, true, true, true, true, false, true, false, true, false, false, false, false, false, false, false, false] rfl rfl (take_ofW HT_.out HW_.out (by kernel_rfl)) (fun _ _ _ h => h) (Or.inl ⟨by rfl, ?_⟩) hHeld ?_ ?_
      rotate_left
      ·rintro w' ⟨s0, s1, s2, s3, s4, s5, s6, s7, s8, s9, s10, s11⟩
       go_simp
       with_reducible rfl
      rotate_left
      ·simp only [Act.put, List.setIfInBounds_toArray, List.set_cons_zero, List.set_cons_succ, i64_w, i32_w]
       rfl
      refine take_ (i := 12) (N := some 43) (v := ?_) (a' := ?_) #[true, true, true, true, true, true, true, true, true, true, false, true, true, true, false, false, false, false, false, false, false, false] rfl rfl (take_ofW HT_.out HW_.out (by kernel_rfl)) (fun _ _ _ h => h) (Or.inl ⟨by rfl, ?_⟩) hHeld ?_ ?_
      rotate_left
      ·rintro w' ⟨s0, s1, s2, s3, s4, s5, s6, s7, s8, s9, s10, s11⟩
       go_simp
       with_reducible rfl
      rotate_left
      ·simp only [Act.put, List.setIfInBounds_toArray, List.set_cons_zero, List.set_cons_succ, i64_w, i32_w]
       rfl
      refine one_ (i := 10) (N := some 41) #[true, true, true, true, true, true, true, true, true, true, true, true, true, true, false, false, false, false, false, false, false, false] rfl rfl (one_of HT_.out (by kernel_rfl)) (by decide) (fun K hK => ?_)
      refine gs_ Try.func16 #[.agg #[.int .i64 a0_0, .bool a0_1, .int .u64 a0_2, .int .i64 a0_3], .agg #[.int .i64 a1_0, .bool a1_1, .int .u64 a1_2, .int .i64 a1_3], .bool a2] ?_
      with_reducible refine (arith_Sub.calls kj6 a0_0 a0_1 a0_2 a0_3 a1_0 a1_1 a1_2 a1_3 a2 t739 t740 t741 t742 _ A22.out).mono ?_
      rintro e w37 ⟨rfl, hb⟩
      refine ⟨_, rfl, ?_⟩
      have n0_ := kq_ BK725 hb
      have n1_ := kq_ BK726 hb
      have n2_ := kq_ BK734 hb
      have n3_ := bq_ HB hb
      clear BK725
      clear BK726
      clear BK734
      clear HB
      have BK725 := n0_
      have BK726 := n1_
      have BK734 := n2_
      have HB := n3_
      clear n0_ n1_ n2_ n3_
      (try clear hb)
      (try clear hb2)
      (try clear hk)
      (try clear hi)
      refine hK.out _ _ ⟨(blk_cell BK734.out 0).trans rfl, (blk_cell BK734.out 1).trans rfl, (blk_cell BK734.out 2).trans rfl, (blk_cell BK734.out 3).trans rfl, (blk_cell BK725.out 0).trans rfl, (blk_cell BK725.out 1).trans rfl, (blk_cell BK725.out 2).trans rfl, (blk_cell BK725.out 3).trans rfl, (blk_cell BK726.out 0).trans rfl, (blk_cell BK726.out 1).trans rfl, (blk_cell BK726.out 2).trans rfl, (blk_cell BK726.out 3).trans rfl⟩ (fun hHeld => ?_)
      clear hK K
      refine norm_ (a' := ?_) ?_ ?_
      rotate_left
      ·show Act.put _ (some 41) _ = _
       simp only [Act.put, List.setIfInBounds_toArray, List.set_cons_zero, List.set_cons_succ, i64_w, i32_w]
       rfl
      refine one_ (i := 14) (N := some 45) #[true, true, true, true, true, true, true, true, true, true, true, true, true, true, true, false, false, false, false, false, false, false] rfl rfl (one_of HT_.out (by kernel_rfl)) (by decide) (fun K hK => ?_)
      refine gs_ Try.func17 #[.agg #[.int .i64 a0_0, .bool a0_1, .int .u64 a0_2, .int .i64 a0_3], .agg #[.int .i64 a1_0, .bool a1_1, .int .u64 a1_2, .int .i64 a1_3], .bool a2] ?_
      with_reducible refine (pelorusref06_Sub.calls kj6 a0_0 a0_1 a0_2 a0_3 a1_0 a1_1 a1_2 a1_3 a2 t743 t744 t745 t746 _ A23.out).mono ?_
      rintro e w38 ⟨rfl, hb⟩
      refine ⟨_, rfl, ?_⟩
      have n0_ := kq_ BK725 hb
      have n1_ := kq_ BK726 hb
      have n2_ := kq_ BK734 hb
      have n3_ := bq_ HB hb
      clear BK725
      clear BK726
      clear BK734
      clear HB
      have BK725 := n0_
      have BK726 := n1_
      have BK734 := n2_
      have HB := n3_
      clear n0_ n1_ n2_ n3_
      (try clear hb)
      (try clear hb2)
      (try clear hk)
      (try clear hi)
      refine hK.out _ _ ⟨(blk_cell BK734.out 0).trans rfl, (blk_cell BK734.out 1).trans rfl, (blk_cell BK734.out 2).trans rfl, (blk_cell BK734.out 3).trans rfl, (blk_cell BK725.out 0).trans rfl, (blk_cell BK725.out 1).trans rfl, (blk_cell BK725.out 2).trans rfl, (blk_cell BK725.out 3).trans rfl, (blk_cell BK726.out 0).trans rfl, (blk_cell BK726.out 1).trans rfl, (blk_cell BK726.out 2).trans rfl, (blk_cell BK726.out 3).trans rfl⟩ (fun hHeld => ?_)
      clear hK K
      refine norm_ (a' := ?_) ?_ ?_
      rotate_left
      ·show Act.put _ (some 45) _ = _
       simp only [Act.put, List.setIfInBounds_toArray, List.set_cons_zero, List.set_cons_succ, i64_w, i32_w]
       rfl
      refine pure_ (i := 15) (N := some 46) (v := ?_) (a' := ?_) #[true, true, true, true, true, true, true, true, true, true, true, true, true, true, true, true, false, false, false, false, false, false] rfl rfl (any_of HT_.out (by kernel_rfl)) (fun _ _ _ h => h) (Or.inl ⟨by rfl, ?_⟩) ?_ ?_
      rotate_left
      ·intro w'
       go_simp
       with_reducible rfl
      rotate_left
      ·simp only [Act.put, List.setIfInBounds_toArray, List.set_cons_zero, List.set_cons_succ, i64_w, i32_w]
       rfl
      refine pure_ (i := 16) (N := some 47) (v := ?_) (a' := ?_) #[true, true, true, true, true, true, true, true, true, true, true, true, true, true, true, true, true, false, false, false, false, false] rfl rfl (any_of HT_.out (by kernel_rfl)) (fun _ _ _ h => h) (Or.inl ⟨by rfl, ?_⟩) ?_ ?_
      rotate_left
      ·intro w'
       go_simp
       with_reducible rfl
      rotate_left
      ·simp only [Act.put, List.setIfInBounds_toArray, List.set_cons_zero, List.set_cons_succ, i64_w, i32_w]
       rfl
      refine pure_ (i := 17) (N := some 48) (v := ?_) (a' := ?_) #[true, true, true, true, true, true, true, true, true, true, true, true, true, true, true, true, true, true, false, false, false, false] rfl rfl (any_of HT_.out (by kernel_rfl)) (fun _ _ _ h => h) (Or.inl ⟨by rfl, ?_⟩) ?_ ?_
      rotate_left
      ·intro w'
       go_simp
       with_reducible rfl
      rotate_left
      ·simp only [Act.put, List.setIfInBounds_toArray, List.set_cons_zero, List.set_cons_succ, i64_w, i32_w]
       rfl
      refine take_ (i := 18) (N := some 49) (v := ?_) (a' := ?_) #[true, true, true, true, true, true, true, true, true, true, true, true, true, true, true, true, true, true, true, false, false, false] rfl rfl (take_ofW HT_.out HW_.out (by kernel_rfl)) (fun _ _ _ h => h) (Or.inl ⟨by rfl, ?_⟩) hHeld ?_ ?_
      rotate_left
      ·rintro w' ⟨s0, s1, s2, s3, s4, s5, s6, s7, s8, s9, s10, s11⟩
       go_simp
       with_reducible rfl
      rotate_left
      ·simp only [Act.put, List.setIfInBounds_toArray, List.set_cons_zero, List.set_cons_succ, i64_w, i32_w]
       rfl
      refine one_ (i := 19) (N := some 50) #[true, true, true, true, true, true, true, true, true, true, true, true, true, true, true, true, true, true, true, true, false, false] rfl rfl (one_of HT_.out (by kernel_rfl)) (by decide) (fun K hK => ?_)
      refine gs_ Try.func18 #[.agg #[.int .i64 t730, .bool t731, .int .u64 t732, .int .i64 t733]] ?_
      with_reducible refine (num_May.calls t730 t731 t732 t733 t747 _ A25.out).mono ?_
      rintro e w39 ⟨rfl, hb⟩
      refine ⟨_, rfl, ?_⟩
      have n0_ := kq_ BK725 hb
      have n1_ := kq_ BK726 hb
      have n2_ := kq_ BK734 hb
      have n3_ := bq_ HB hb
      clear BK725
      clear BK726
      clear BK734
      clear HB
      have BK725 := n0_
      have BK726 := n1_
      have BK734 := n2_
      have HB := n3_
      clear n0_ n1_ n2_ n3_
      (try clear hb)
      (try clear hb2)
      (try clear hk)
      (try clear hi)
      refine hK.out _ _ ⟨(blk_cell BK734.out 0).trans rfl, (blk_cell BK734.out 1).trans rfl, (blk_cell BK734.out 2).trans rfl, (blk_cell BK734.out 3).trans rfl, (blk_cell BK725.out 0).trans rfl, (blk_cell BK725.out 1).trans rfl, (blk_cell BK725.out 2).trans rfl, (blk_cell BK725.out 3).trans rfl, (blk_cell BK726.out 0).trans rfl, (blk_cell BK726.out 1).trans rfl, (blk_cell BK726.out 2).trans rfl, (blk_cell BK726.out 3).trans rfl⟩ (fun hHeld => ?_)
      clear hK K
      refine norm_ (a' := ?_) ?_ ?_
      rotate_left
      ·show Act.put _ (some 50) _ = _
       simp only [Act.put, List.setIfInBounds_toArray, List.set_cons_zero, List.set_cons_succ, i64_w, i32_w]
       rfl
      refine pure_ (i := 20) (N := some 51) (v := ?_) (a' := ?_) #[true, true, true, true, true, true, true, true, true, true, true, true, true, true, true, true, true, true, true, true, true, false] rfl rfl (any_of HT_.out (by kernel_rfl)) (fun _ _ _ h => h) (Or.inl ⟨by rfl, ?_⟩) ?_ ?_
      rotate_left
      ·intro w'
       go_simp
       with_reducible rfl
      rotate_left
      ·simp only [Act.put, List.setIfInBounds_toArray, List.set_cons_zero, List.set_cons_succ, i64_w, i32_w]
       rfl
      refine pure_ (i := 21) (N := some 6) (v := ?_) (a' := ?_) #[true, true, true, true, true, true, true, true, true, true, true, true, true, true, true, true, true, true, true, true, true, true] rfl rfl (any_of HT_.out (by kernel_rfl)) (fun _ _ _ h => h) (Or.inl ⟨by rfl, ?_⟩) ?_ ?_
      rotate_left
      ·intro w'
       go_simp
       with_reducible rfl
      rotate_left
      ·simp only [Act.put, List.setIfInBounds_toArray, List.set_cons_zero, List.set_cons_succ, i64_w, i32_w]
       rfl
      refine done_ (done_of HT_.out (by kernel_rfl)) ?_
      try go_wp2
      go_ret
      exact ⟨by first | rfl | (simp [errW_none, errW_some] <;> rfl) | (simp [*, errW_none, errW_some] <;> rfl), bw_ HB.out⟩
     ·rw [if_neg c24] at H
      have c24b0 : (t739 == t743 && (t740 == t744 && (t741 == t745 && (t742 == t746)))) = false := by simpa using c24
      (try (have c24b1 : decide (t739 = t743 && (t740 == t744 && (t741 == t745 && (t742 == t746)))) = false := by simpa using c24))
      (try (have c24b2 : (t739 == t743 && (t740 == t744 && (t741 == t745 && (t742 == t746)))) = false := by simpa using c24))
      (try (have c24b3 : ¬ (t739 = t743 && (t740 == t744 && (t741 == t745 && (t742 == t746)))) := by simpa using c24))
      clear c24
      exact absurd ((Option.some.inj H).trans HRT_.out) (by simp)
    ·rw [if_neg c21] at H
     have c21b0 : (t730 == t735 && (t731 == t736 && (t732 == t737 && (t733 == t738)))) = false := by simpa using c21
     (try (have c21b1 : decide (t730 = t735 && (t731 == t736 && (t732 == t737 && (t733 == t738)))) = false := by simpa using c21))
     (try (have c21b2 : (t730 == t735 && (t731 == t736 && (t732 == t737 && (t733 == t738)))) = false := by simpa using c21))
     (try (have c21b3 : ¬ (t730 = t735 && (t731 == t736 && (t732 == t737 && (t733 == t738)))) := by simpa using c21))
     clear c21
     exact absurd ((Option.some.inj H).trans HRT_.out) (by simp)


end Go.Proofs.Ythlhogcnfaiphaa.PA
