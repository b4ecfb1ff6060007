-- Laid by this work's own program; Lean checks it.
import Derived.Test.YthlhogcnfaiphaaPAx0
import Derived.Test.YthlhogcnfaiphaaPAx1
import Derived.Test.YthlhogcnfaiphaaPAx2
import Derived.Test.YthlhogcnfaiphaaPAx14
import Derived.Test.YthlhogcnfaiphaaPAx19
import Derived.Test.YthlhogcnfaiphaaPAx23
import Derived.Test.YthlhogcnfaiphaaPAx24
namespace Go.Proofs.Ythlhogcnfaiphaa.PA
open Go.RowKit Go.Proofs.YthlhogcnfaiphaaW.PrintWords Go.Proofs.YthlhogcnfaiphaaW.PrintLast Go.Proofs.YthlhogcnfaiphaaW.PrintMore
attribute [local go_sem] max2_int min2_int max_two min_two max_three min_three max_four min_four   -- for this text's walks alone
set_option linter.unusedVariables false
set_option linter.unusedSimpArgs false

attribute [local go_sem ↓ high] isSome_set_
attribute [local go_sem high] eqA24
/-! ### peloruslaw06_ArithMany: function 9 -/
set_option maxHeartbeats 8000000 in
set_option maxRecDepth 100000 in
theorem peloruslaw06_ArithMany.calls (k : Nat) (A0 : Option Addr) (c0 : Nat) (l0 : List (S24)) (a1 : Bool) (r : Bool) (w : World) (hr0 : Kd.C k24 w A0 l0.length l0) (hc0 : l0.length ≤ c0) (hr_ : r = true) (haw_ : ∀ r, peloruslaw06_awake.f k = some r → r = true) (h : peloruslaw06_ArithMany.f k l0 a1 = some r) :
  Calls Try.prog 9 #[.slice A0 l0.length c0, .bool a1] w fun e w' => e = .returned (.bool r) ∧ Below w.heap.size w w' := by
 have HRT_ := Aside0.mk hr_
 clear hr_
 have HAW_ := Aside0.mk haw_
 clear haw_
 have hu24 := Try.underlying24
 have HR0 := Aside0.mk hr0
 have HC0 := Aside0.mk hc0
 clear hr0 hc0
 have HB := Aside0.mk (Below.refl w.heap.size w)
 have H : ((peloruslaw06_awake.f k).bind fun t1052 => (if t1052 = true then (peloruslaw06_ArithMany.j0 k l0 a1 t1052 (decide ((l0.length : Int) > 20))) else (peloruslaw06_ArithMany.j0 k l0 a1 t1052 true))) = some r := h
 clear h
 replace H := Option.bind_eq_some_iff.mp H
 obtain ⟨t1052, A30, H⟩ := H
 (try dsimp only at H)
 have A3 := Aside0.mk A30
 clear A30
 have HC4 := Aside0.mk H
 clear H
 go_enter Try.func9, Try.ntmps9
 go_upto_region 2 with (first | ((with_reducible refine gate_callee (f := 10) rfl ?_); refine gl_ (some 10) Try.func10 #[] ?_; (with_reducible refine (peloruslaw06_awake.calls k  t1052 _ (HAW_.out _ A3.out) A3.out).mono ?_); rintro e w5 ⟨rfl, hb⟩; refine ⟨_, rfl, ?_⟩; have n0_ := bq_ HB hb; clear HB; have HB := n0_; clear n0_; (try clear hb); (try clear hb2); (try clear hk); (try clear hi)))
 (try simp only [Act.put, List.setIfInBounds_toArray, List.set_cons_zero, List.set_cons_succ])
 go_cut [17] (fun v17 wc => ∃ (kq : Nat) (x17_3 : Bool), v17 = .bool x17_3 ∧ Aside0 (peloruslaw06_ArithMany.j0 kq l0 a1 t1052 x17_3 = some r) ∧ Aside0 (kq ≤ k) ∧ Aside0 (Below w.heap.size w wc))
 case first =>
  have H := HC4.out
  clear HC4
  by_cases c6 : t1052 = true
  ·subst c6
   have H1 : (peloruslaw06_ArithMany.j0 k l0 a1 true (decide ((l0.length : Int) > 20))) = some r := by rw [if_pos rfl] at H; exact H
   clear H
   have H := H1
   clear H1
   have H' := Aside0.mk H
   clear H
   go_wp2
   go_meet
   case rel => exact ⟨_, (decide ((l0.length : Int) > 20)), (by first | rfl | (simp; done) | (simp [*]; done)), H', ⟨by first | omega | exact Nat.le_refl _⟩, ⟨bw_ HB.out⟩⟩
  ·replace c6 := Bool.eq_false_iff.mpr c6
   subst c6
   have H1 : (peloruslaw06_ArithMany.j0 k l0 a1 false true) = some r := by rw [if_neg (show ¬ (false = true) by decide)] at H; exact H
   clear H
   have H := H1
   clear H1
   have H' := Aside0.mk H
   clear H
   go_wp2
   go_meet
   case rel => exact ⟨_, (true), (by first | rfl | (simp; done) | (simp [*]; done)), H', ⟨by first | omega | exact Nat.le_refl _⟩, ⟨bw_ HB.out⟩⟩
 case rest =>
  clear HC4
  try clear c1
  try clear p2
  try clear c6
  obtain ⟨kq, x17_3, rfl, HA, HJ3, HB⟩ := hcut
  cases kq with
  | zero => exact absurd HA.out (by simp [peloruslaw06_ArithMany.j0])
  | succ kj3 =>
   have H := HA.out
   clear HA
   simp only [peloruslaw06_ArithMany.j0] at H
   by_cases c7 : x17_3 = true
   ·subst c7
    have H1 : (some t1052) = some r := by rw [if_pos rfl] at H; exact H
    clear H
    have H := H1
    clear H1
    obtain rfl := Option.some.inj H
    go_wp2
    go_ret
    exact ⟨rf_, bw_ HB.out⟩
   ·replace c7 := Bool.eq_false_iff.mpr c7
    subst c7
    have H1 : (peloruslaw06_ArithMany.l0 kj3 l0 a1 0) = some r := by rw [if_neg (show ¬ (false = true) by decide)] at H; exact H
    clear H
    have H := H1
    clear H1
    have H' := Aside0.mk H
    clear H
    go_wp2
    go_loopg [6] kj3 (fun kq v6 w' => ∃ (x6_2 : Int), v6 = .int .i64 x6_2 ∧ Aside0 (peloruslaw06_ArithMany.l0 kq l0 a1 x6_2 = some r) ∧ Aside0 (kq ≤ kj3) ∧ Aside0 (Below w.heap.size w w'))
    case atStart => exact ⟨(0), (by first | rfl | (simp; done) | (simp [*]; done)), H', ⟨Nat.le_refl _⟩, ⟨bw_ HB.out⟩⟩
    case round =>
     clear H'
     try clear c1
     try clear p2
     try clear c6
     try clear c7
     try clear p2
     obtain ⟨x6_2, rfl, HA, HK2, HB⟩ := hrel
     cases gk with
     | zero => exact absurd HA.out (by simp [peloruslaw06_ArithMany.l0])
     | succ k2 =>
      have H := HA.out
      clear HA
      simp only [peloruslaw06_ArithMany.l0] at H
      by_cases c8 : x6_2 < (l0.length : Int)
      ·rw [if_pos c8] at H
       have c8b0 : decide (x6_2 < (l0.length : Int)) = true := decide_eq_true c8
       clear c8
       by_cases c9 : 0 ≤ x6_2
       ·rw [if_pos c9] at H
        have c9b0 : decide (0 ≤ x6_2) = true := decide_eq_true c9
        clear c9
        replace H := Option.bind_eq_some_iff.mp H
        obtain ⟨t1054, A100, H⟩ := H
        (try dsimp only at H)
        have A10 := Aside0.mk A100
        clear A100
        by_cases c11 : t1054 = true
        ·subst c11
         have H1 : (peloruslaw06_ArithMany.l0 k2 l0 a1 (wrap64 (x6_2 + 1))) = some r := by rw [if_pos rfl] at H; exact H
         clear H
         have H := H1
         clear H1
         have H' := Aside0.mk H
         clear H
         have p1053 : 0 ≤ (x6_2 : Int) := of_decide_eq_true (by first | (with_reducible assumption) | assumption)
         have q1053 : x6_2 < (l0.length : Int) := of_decide_eq_true (by first | (with_reducible assumption) | assumption)
         obtain ⟨ad1053, e1053, hx1053_0, hx1053_1, hx1053_2, hx1053_3⟩ := at_T24 HR0.out x6_2 p1053 q1053
         cases e1053
         replace hx1053_0 := (HB.out.cell (World.block_lt_of_cell? w _ hx1053_0)).trans hx1053_0
         replace hx1053_1 := (HB.out.cell (World.block_lt_of_cell? w _ hx1053_1)).trans hx1053_1
         replace hx1053_2 := (HB.out.cell (World.block_lt_of_cell? w _ hx1053_2)).trans hx1053_2
         replace hx1053_3 := (HB.out.cell (World.block_lt_of_cell? w _ hx1053_3)).trans hx1053_3
         replace p1053 := eq_true p1053
         replace q1053 := eq_true q1053
         go_wp2_with (first | ((with_reducible refine gate_callee (f := 14) rfl ?_); refine gl_ (some 29) Try.func14 #[.agg #[.int .i64 ((rd_T24 l0 x6_2).f0), .bool ((rd_T24 l0 x6_2).f1), .int .u64 ((rd_T24 l0 x6_2).f2), .int .i64 ((rd_T24 l0 x6_2).f3)]] ?_; (with_reducible refine (peloruslaw06_Few.calls ((rd_T24 l0 x6_2).f0) ((rd_T24 l0 x6_2).f1) ((rd_T24 l0 x6_2).f2) ((rd_T24 l0 x6_2).f3) true _ A10.out).mono ?_); rintro e w12 ⟨rfl, hb⟩; refine ⟨_, rfl, ?_⟩; have n0_ := bq_ HB hb; clear HB; have HB := n0_; clear n0_; (try clear hb); (try clear hb2); (try clear hk); (try clear hi)))
         go_roundg k2
         case measure => have := HJ3.out; have := HK2.out; omega
         case rel => exact ⟨(wrap64 (x6_2 + 1)), (by first | rfl | (simp; done) | (simp [*]; done)), H', ⟨by have := HJ3.out; have := HK2.out; omega⟩, ⟨bw_ HB.out⟩⟩
        ·replace c11 := Bool.eq_false_iff.mpr c11
         subst c11
         have H1 : (some true) = some r := by rw [if_neg (show ¬ (false = true) by decide)] at H; exact H
         clear H
         have H := H1
         clear H1
         obtain rfl := Option.some.inj H
         have p1053 : 0 ≤ (x6_2 : Int) := of_decide_eq_true (by first | (with_reducible assumption) | assumption)
         have q1053 : x6_2 < (l0.length : Int) := of_decide_eq_true (by first | (with_reducible assumption) | assumption)
         obtain ⟨ad1053, e1053, hx1053_0, hx1053_1, hx1053_2, hx1053_3⟩ := at_T24 HR0.out x6_2 p1053 q1053
         cases e1053
         replace hx1053_0 := (HB.out.cell (World.block_lt_of_cell? w _ hx1053_0)).trans hx1053_0
         replace hx1053_1 := (HB.out.cell (World.block_lt_of_cell? w _ hx1053_1)).trans hx1053_1
         replace hx1053_2 := (HB.out.cell (World.block_lt_of_cell? w _ hx1053_2)).trans hx1053_2
         replace hx1053_3 := (HB.out.cell (World.block_lt_of_cell? w _ hx1053_3)).trans hx1053_3
         replace p1053 := eq_true p1053
         replace q1053 := eq_true q1053
         go_wp2_with (first | ((with_reducible refine gate_callee (f := 14) rfl ?_); refine gl_ (some 29) Try.func14 #[.agg #[.int .i64 ((rd_T24 l0 x6_2).f0), .bool ((rd_T24 l0 x6_2).f1), .int .u64 ((rd_T24 l0 x6_2).f2), .int .i64 ((rd_T24 l0 x6_2).f3)]] ?_; (with_reducible refine (peloruslaw06_Few.calls ((rd_T24 l0 x6_2).f0) ((rd_T24 l0 x6_2).f1) ((rd_T24 l0 x6_2).f2) ((rd_T24 l0 x6_2).f3) false _ A10.out).mono ?_); rintro e w13 ⟨rfl, hb⟩; refine ⟨_, rfl, ?_⟩; have n0_ := bq_ HB hb; clear HB; have HB := n0_; clear n0_; (try clear hb); (try clear hb2); (try clear hk); (try clear hi)))
         go_ret
         exact ⟨rf_, bw_ HB.out⟩
       ·rw [if_neg c9] at H
        exact absurd H (by simp)
      ·rw [if_neg c8] at H
       have c8b0 : decide (x6_2 < (l0.length : Int)) = false := decide_eq_false c8
       clear c8
       replace H := Option.bind_eq_some_iff.mp H
       obtain ⟨⟨t1055, t1056, t1057, t1058⟩, A140, H⟩ := H
       (try dsimp only at H)
       have A14 := Aside0.mk A140
       clear A140
       replace H := Option.bind_eq_some_iff.mp H
       obtain ⟨⟨t1060, t1061, t1062, t1063⟩, A150, H⟩ := H
       (try dsimp only at H)
       have A15 := Aside0.mk A150
       clear A150
       replace H := Option.bind_eq_some_iff.mp H
       obtain ⟨⟨t1065, t1066, t1067, t1068⟩, A160, H⟩ := H
       (try dsimp only at H)
       have A16 := Aside0.mk A160
       clear A160
       replace H := Option.bind_eq_some_iff.mp H
       obtain ⟨⟨t1069, t1070, t1071, t1072⟩, A170, H⟩ := H
       (try dsimp only at H)
       have A17 := Aside0.mk A170
       clear A170
       by_cases c18 : (t1065 == t1069 && (t1066 == t1070 && (t1067 == t1071 && (t1068 == t1072)))) = true
       ·rw [if_pos c18] at H
        have c18b0 : (t1065 == t1069 && (t1066 == t1070 && (t1067 == t1071 && (t1068 == t1072)))) = true := c18
        (try (have c18b1 : decide (t1065 = t1069 && (t1066 == t1070 && (t1067 == t1071 && (t1068 == t1072)))) = true := by simpa using c18))
        (try (have c18b2 : (t1065 == t1069 && (t1066 == t1070 && (t1067 == t1071 && (t1068 == t1072)))) = true := by simpa using c18))
        clear c18
        replace H := Option.bind_eq_some_iff.mp H
        obtain ⟨t1073, A190, H⟩ := H
        (try dsimp only at H)
        have A19 := Aside0.mk A190
        clear A190
        obtain rfl := Option.some.inj H
        go_wp2_with (first | ((with_reducible refine gate_callee (f := 28) rfl ?_); refine gl_ (some 33) Try.func28 #[.bool false, .slice A0 l0.length c0] ?_; (with_reducible refine (arith_Sum.calls k2 false _ _ l0 t1055 t1056 t1057 t1058 _ ?side1 ?side2 A14.out).mono ?_); (case side1 => repeat (first | exact (Kd.C_below HR0.out HB.out) | (with_reducible refine Kd.C_alloc ?_ _) | (with_reducible refine Kd.C_drewN ?_ _) | (with_reducible refine Kd.C_drew ?_))); (case side2 => exact HC0.out); rintro e w20 ⟨rfl, hb⟩; refine ⟨_, rfl, ?_⟩; have n0_ := bq_ HB hb; clear HB; have HB := n0_; clear n0_; (try clear hb); (try clear hb2); (try clear hk); (try clear hi)) | ((with_reducible refine gate_dst (N := 8) rfl ?_); (try (refine gate_guard (by rfl) ?_; dsimp only)); refine bx_ 8 #[.int .i64 0, .bool false, .int .u64 0, .int .i64 0] 24 ?_; intro gb1059 hg w21 hbox hb; have n0_ := bq_ HB hb; have n1_ := Aside0.mk (hbox); have n2_ := ge_ hg HB; have n3_ := ge_ hg HB; clear HB; have HB := n0_; have BK1059 := n1_; have GW1059 := n2_; have GE1059 := n3_; clear n0_ n1_ n2_ n3_; clear hb hbox hg; obtain ⟨hcz22_0, hcz22_1, hcz22_2, hcz22_3, hfz22_0, hfz22_1, hfz22_2, hfz22_3⟩ := c4_ BK1059) | ((with_reducible refine gate_callee (f := 28) rfl ?_); refine gl_ (some 35) Try.func28 #[.bool true, .slice A0 l0.length c0] ?_; (with_reducible refine (arith_Sum.calls k2 true _ _ l0 t1060 t1061 t1062 t1063 _ ?side1 ?side2 A15.out).mono ?_); (case side1 => exact Kd.C_below HR0.out (bw_ HB.out)); (case side2 => exact HC0.out); rintro e w23 ⟨rfl, hb⟩; refine ⟨_, rfl, ?_⟩; have n0_ := Aside0.mk (blk_below (g := gb1059) (o := .cells #[.int .i64 t1055, .bool t1056, .int .u64 t1057, .int .i64 t1058] 24 (0, 0)) (by refine kb_ ?_; refine bp_ #[.int .i64 t1055, .bool t1056, .int .u64 t1057, .int .i64 0] 3 ?_; refine bp_ #[.int .i64 t1055, .bool t1056, .int .u64 0, .int .i64 0] 2 ?_; refine bp_ #[.int .i64 t1055, .bool false, .int .u64 0, .int .i64 0] 1 ?_; refine bp_ #[.int .i64 0, .bool false, .int .u64 0, .int .i64 0] 0 ?_; exact BK1059.out) hb); have n1_ := bq_ HB hb; clear BK1059; clear HB; have BK1059 := n0_; have HB := n1_; clear n0_ n1_; (try clear hb); (try clear hb2); (try clear hk); (try clear hi)) | ((with_reducible refine gate_dst (N := 9) rfl ?_); (try (refine gate_guard (by rfl) ?_; dsimp only)); refine bx_ 9 #[.int .i64 0, .bool false, .int .u64 0, .int .i64 0] 24 ?_; intro gb1064 hg w24 hbox hb; have n0_ := kq_ BK1059 hb; have n1_ := bq_ HB hb; have n2_ := Aside0.mk (hbox); have n3_ := ge_ hg HB; have n4_ := ge_ hg HB; have n5_ := nb_ hg BK1059; have n6_ := nc_ hg BK1059; clear BK1059; clear HB; have BK1059 := n0_; have HB := n1_; have BK1064 := n2_; have GW1064 := n3_; have GE1064 := n4_; have NB1059_1064 := n5_; have NB1064_1059 := n6_; clear n0_ n1_ n2_ n3_ n4_ n5_ n6_; clear hb hbox hg; have hnb25 := NB1064_1059.out; have hnc25 := NB1059_1064.out; obtain ⟨hcz26_0, hcz26_1, hcz26_2, hcz26_3, hfz26_0, hfz26_1, hfz26_2, hfz26_3⟩ := c4_ BK1064) | ((with_reducible refine gate_callee (f := 28) rfl ?_); refine gl_ (some 38) Try.func28 #[.bool a1, .slice A0 l0.length c0] ?_; (with_reducible refine (arith_Sum.calls k2 a1 _ _ l0 t1065 t1066 t1067 t1068 _ ?side1 ?side2 A16.out).mono ?_); (case side1 => exact Kd.C_below HR0.out (bw_ HB.out)); (case side2 => exact HC0.out); rintro e w27 ⟨rfl, hb⟩; refine ⟨_, rfl, ?_⟩; have n0_ := Aside0.mk (blk_below (g := gb1059) (o := .cells #[.int .i64 t1055, .bool t1056, .int .u64 t1057, .int .i64 t1058] 24 (0, 0)) (by refine kb_ ?_; refine bf_ NB1059_1064 ?_; refine bf_ NB1059_1064 ?_; refine bf_ NB1059_1064 ?_; refine bf_ NB1059_1064 ?_; exact BK1059.out) hb); have n1_ := Aside0.mk (blk_below (g := gb1064) (o := .cells #[.int .i64 t1060, .bool t1061, .int .u64 t1062, .int .i64 t1063] 24 (0, 0)) (by refine kb_ ?_; refine bp_ #[.int .i64 t1060, .bool t1061, .int .u64 t1062, .int .i64 0] 3 ?_; refine bp_ #[.int .i64 t1060, .bool t1061, .int .u64 0, .int .i64 0] 2 ?_; refine bp_ #[.int .i64 t1060, .bool false, .int .u64 0, .int .i64 0] 1 ?_; refine bp_ #[.int .i64 0, .bool false, .int .u64 0, .int .i64 0] 0 ?_; exact BK1064.out) hb); have n2_ := bq_ HB hb; clear BK1059; clear BK1064; clear HB; have BK1059 := n0_; have BK1064 := n1_; have HB := n2_; clear n0_ n1_ n2_; (try clear hb); (try clear hb2); (try clear hk); (try clear hi)) | ((with_reducible refine gate_callee (f := 29) rfl ?_); refine gl_ (some 41) Try.func29 #[.bool a1, .slice A0 l0.length c0] ?_; (with_reducible refine (pelorusref06_Sum.calls k2 a1 _ _ l0 t1069 t1070 t1071 t1072 _ ?side1 ?side2 A17.out).mono ?_); (case side1 => repeat (first | exact (Kd.C_below HR0.out HB.out) | (with_reducible refine Kd.C_alloc ?_ _) | (with_reducible refine Kd.C_drewN ?_ _) | (with_reducible refine Kd.C_drew ?_))); (case side2 => exact HC0.out); rintro e w28 ⟨rfl, hb⟩; refine ⟨_, rfl, ?_⟩; have n0_ := kq_ BK1059 hb; have n1_ := kq_ BK1064 hb; have n2_ := bq_ HB hb; clear BK1059; clear BK1064; clear HB; have BK1059 := n0_; have BK1064 := n1_; have HB := n2_; clear n0_ n1_ n2_; (try clear hb); (try clear hb2); (try clear hk); (try clear hi); obtain ⟨hcz29_0, hcz29_1, hcz29_2, hcz29_3, hfz29_0, hfz29_1, hfz29_2, hfz29_3⟩ := c4_ BK1059; obtain ⟨hcz30_0, hcz30_1, hcz30_2, hcz30_3, hfz30_0, hfz30_1, hfz30_2, hfz30_3⟩ := c4_ BK1064) | (go_at_call 26; (with_reducible refine (num_Cmp.calls t1055 t1056 t1057 t1058 t1060 t1061 t1062 t1063 t1073 _ A19.out).mono ?_); rintro e w31 ⟨rfl, hb⟩; have n0_ := kq_ BK1059 hb; have n1_ := kq_ BK1064 hb; have n2_ := bq_ HB hb; clear BK1059; clear BK1064; clear HB; have BK1059 := n0_; have BK1064 := n1_; have HB := n2_; clear n0_ n1_ n2_; (try clear hb); (try clear hb2); (try clear hk); (try clear hi)))
        go_ret
        exact ⟨rf_, bw_ HB.out⟩
       ·rw [if_neg c18] at H
        have c18b0 : (t1065 == t1069 && (t1066 == t1070 && (t1067 == t1071 && (t1068 == t1072)))) = false := by simpa using c18
        (try (have c18b1 : decide (t1065 = t1069 && (t1066 == t1070 && (t1067 == t1071 && (t1068 == t1072)))) = false := by simpa using c18))
        (try (have c18b2 : (t1065 == t1069 && (t1066 == t1070 && (t1067 == t1071 && (t1068 == t1072)))) = false := by simpa using c18))
        (try (have c18b3 : ¬ (t1065 = t1069 && (t1066 == t1070 && (t1067 == t1071 && (t1068 == t1072)))) := by simpa using c18))
        clear c18
        exact absurd ((Option.some.inj H).trans HRT_.out) (by simp)


end Go.Proofs.Ythlhogcnfaiphaa.PA
