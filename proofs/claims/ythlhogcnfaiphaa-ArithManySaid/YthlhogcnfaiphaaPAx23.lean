-- Laid by this work's own program; Lean checks it.
import Derived.Test.YthlhogcnfaiphaaPAx0
import Derived.Test.YthlhogcnfaiphaaPAx2
import Derived.Test.YthlhogcnfaiphaaPAx5
import Derived.Test.YthlhogcnfaiphaaPAx8
import Derived.Test.YthlhogcnfaiphaaPAx16
namespace Go.Proofs.Ythlhogcnfaiphaa.PA
open Go.RowKit Go.Proofs.YthlhogcnfaiphaaW.PrintWords Go.Proofs.YthlhogcnfaiphaaW.PrintLast Go.Proofs.YthlhogcnfaiphaaW.PrintMore
attribute [local go_sem] max2_int min2_int max_two min_two max_three min_three max_four min_four   -- for this text's walks alone
set_option linter.unusedVariables false
set_option linter.unusedSimpArgs false

attribute [local go_sem ↓ high] isSome_set_
/-! ### arith_Sum: function 28 -/
set_option maxHeartbeats 8000000 in
set_option maxRecDepth 100000 in
theorem arith_Sum.calls (k : Nat) (a0 : Bool) (A1 : Option Addr) (c1 : Nat) (l1 : List (S24)) (r1 : Int) (r2 : Bool) (r3 : Int) (r4 : Int) (w : World) (hr1 : Kd.C k24 w A1 l1.length l1) (hc1 : l1.length ≤ c1) (h : arith_Sum.f k a0 l1 = some (r1, r2, r3, r4)) :
  Calls Try.prog 28 #[.bool a0, .slice A1 l1.length c1] w fun e w' => e = .returned (.agg #[.int .i64 r1, .bool r2, .int .u64 r3, .int .i64 r4]) ∧ Below w.heap.size w w' := by
 have hu24 := Try.underlying24
 have HR1 := Aside0.mk hr1
 have HC1 := Aside0.mk hc1
 clear hr1 hc1
 have HB := Aside0.mk (Below.refl w.heap.size w)
 have H : (arith_Sum.l0 k a0 l1 (l1.length : Int) 0 0 false 0 0) = some (r1, r2, r3, r4) := h
 clear h
 have H' := Aside0.mk H
 clear H
 go_enter Try.func28, Try.ntmps28
 go_wp2_with (first | ((with_reducible refine gate_dst (N := 4) rfl ?_); refine bx_ 4 #[.int .i64 0, .bool false, .int .u64 0, .int .i64 0] 24 ?_; intro gb1032 hg w3 hbox hb; have n0_ := bq_ HB hb; have n1_ := Aside0.mk (hbox); have n2_ := ge_ hg HB; have n3_ := ge_ hg HB; clear HB; have HB := n0_; have BK1032 := n1_; have GW1032 := n2_; have GE1032 := n3_; clear n0_ n1_ n2_ n3_; clear hb hbox hg) | ((with_reducible refine gate_dst (N := 5) rfl ?_); refine bx_ 5 #[.int .i64 0, .bool false, .int .u64 0, .int .i64 0] 24 ?_; intro gb1033 hg w4 hbox hb; have n0_ := kq_ BK1032 hb; have n1_ := bq_ HB hb; have n2_ := Aside0.mk (hbox); have n3_ := ge_ hg HB; have n4_ := ge_ hg HB; have n5_ := nb_ hg BK1032; have n6_ := nc_ hg BK1032; clear BK1032; clear HB; have BK1032 := n0_; have HB := n1_; have BK1033 := n2_; have GW1033 := n3_; have GE1033 := n4_; have NB1032_1033 := n5_; have NB1033_1032 := n6_; clear n0_ n1_ n2_ n3_ n4_ n5_ n6_; clear hb hbox hg))
 go_loopg [10] k (fun kq v10 w' => ∃ (x10_1 : Int) (x1034000_1 : Int) (x1034001_1 : Bool) (x1034002_1 : Int) (x1034003_1 : Int), v10 = .int .i64 x10_1 ∧ Aside0 (arith_Sum.l0 kq a0 l1 (l1.length : Int) x10_1 x1034000_1 x1034001_1 x1034002_1 x1034003_1 = some (r1, r2, r3, r4)) ∧ Aside0 (kq ≤ k) ∧ Aside0 (w'.heap[gb1032]? = some (.cells #[.int .i64 0, .bool false, .int .u64 0, .int .i64 0] 24 (0, 0))) ∧ Aside0 (w'.heap[gb1033]? = some (.cells #[.int .i64 x1034000_1, .bool x1034001_1, .int .u64 x1034002_1, .int .i64 x1034003_1] 24 (0, 0))) ∧ Aside0 (Below w.heap.size w w'))
 case atStart => exact ⟨(0), (0), (false), (0), (0), (by first | rfl | (simp; done) | (simp [*]; done)), H', ⟨Nat.le_refl _⟩, ⟨kb_ BK1032.out⟩, ⟨kb_ BK1033.out⟩, ⟨bw_ HB.out⟩⟩
 case round =>
  clear H'
  try clear c1
  try clear c2
  try clear p2
  obtain ⟨x10_1, x1034000_1, x1034001_1, x1034002_1, x1034003_1, rfl, HA, HK1, BK1032, BK1033, HB⟩ := hrel
  cases gk with
  | zero => exact absurd HA.out (by simp [arith_Sum.l0])
  | succ k1 =>
   have H := HA.out
   clear HA
   simp only [arith_Sum.l0] at H
   by_cases c5 : x10_1 < (l1.length : Int)
   ·rw [if_pos c5] at H
    have c5b0 : decide (x10_1 < (l1.length : Int)) = true := decide_eq_true c5
    clear c5
    by_cases c6 : 0 ≤ x10_1
    ·rw [if_pos c6] at H
     have c6b0 : decide (0 ≤ x10_1) = true := decide_eq_true c6
     clear c6
     by_cases c7 : x10_1 < (l1.length : Int)
     ·rw [if_pos c7] at H
      have c7b0 : decide (x10_1 < (l1.length : Int)) = true := decide_eq_true c7
      clear c7
      replace H := Option.bind_eq_some_iff.mp H
      obtain ⟨⟨t1036, t1037, t1038, t1039⟩, A80, H⟩ := H
      (try dsimp only at H)
      have A8 := Aside0.mk A80
      clear A80
      have H' := Aside0.mk H
      clear H
      have p1034 : 0 ≤ (x10_1 : Int) := of_decide_eq_true (by first | (with_reducible assumption) | assumption)
      have q1034 : x10_1 < (l1.length : Int) := of_decide_eq_true (by first | (with_reducible assumption) | assumption)
      obtain ⟨ad1034, e1034, hx1034_0, hx1034_1, hx1034_2, hx1034_3⟩ := at_T24 HR1.out x10_1 p1034 q1034
      cases e1034
      replace hx1034_0 := (HB.out.cell (World.block_lt_of_cell? w _ hx1034_0)).trans hx1034_0
      replace hx1034_1 := (HB.out.cell (World.block_lt_of_cell? w _ hx1034_1)).trans hx1034_1
      replace hx1034_2 := (HB.out.cell (World.block_lt_of_cell? w _ hx1034_2)).trans hx1034_2
      replace hx1034_3 := (HB.out.cell (World.block_lt_of_cell? w _ hx1034_3)).trans hx1034_3
      replace p1034 := eq_true p1034
      replace q1034 := eq_true q1034
      go_wp2_with (first | ((with_reducible refine gate_dst (N := 7) rfl ?_); refine bx_ 7 #[.int .i64 0, .bool false, .int .u64 0, .int .i64 0] 24 ?_; intro gb1035 hg w9 hbox hb; have n0_ := kq_ BK1032 hb; have n1_ := kq_ BK1033 hb; have n2_ := bq_ HB hb; have n3_ := Aside0.mk (hbox); have n4_ := ge_ hg HB; have n5_ := ge_ hg HB; have n6_ := nb_ hg BK1032; have n7_ := nc_ hg BK1032; have n8_ := nb_ hg BK1033; have n9_ := nc_ hg BK1033; clear BK1032; clear BK1033; clear HB; have BK1032 := n0_; have BK1033 := n1_; have HB := n2_; have BK1035 := n3_; have GW1035 := n4_; have GE1035 := n5_; have NB1032_1035 := n6_; have NB1035_1032 := n7_; have NB1033_1035 := n8_; have NB1035_1033 := n9_; clear n0_ n1_ n2_ n3_ n4_ n5_ n6_ n7_ n8_ n9_; clear hb hbox hg; have hnb10 := NB1035_1032.out; have hnc10 := NB1032_1035.out; have hnb11 := NB1035_1033.out; have hnc11 := NB1033_1035.out; obtain ⟨hcz12_0, hcz12_1, hcz12_2, hcz12_3, hfz12_0, hfz12_1, hfz12_2, hfz12_3⟩ := c4_ BK1035; have hnb13 := NB1033_1032.out; have hnc13 := NB1032_1033.out; obtain ⟨hcz14_0, hcz14_1, hcz14_2, hcz14_3, hfz14_0, hfz14_1, hfz14_2, hfz14_3⟩ := c4_ BK1033) | ((with_reducible refine gate_callee (f := 11) rfl ?_); refine gl_ (some 17) Try.func11 #[.agg #[.int .i64 x1034000_1, .bool x1034001_1, .int .u64 x1034002_1, .int .i64 x1034003_1], .agg #[.int .i64 ((rd_T24 l1 x10_1).f0), .bool ((rd_T24 l1 x10_1).f1), .int .u64 ((rd_T24 l1 x10_1).f2), .int .i64 ((rd_T24 l1 x10_1).f3)], .bool a0] ?_; (with_reducible refine (arith_Add.calls k1 x1034000_1 x1034001_1 x1034002_1 x1034003_1 ((rd_T24 l1 x10_1).f0) ((rd_T24 l1 x10_1).f1) ((rd_T24 l1 x10_1).f2) ((rd_T24 l1 x10_1).f3) a0 t1036 t1037 t1038 t1039 _ A8.out).mono ?_); rintro e w15 ⟨rfl, hb⟩; refine ⟨_, rfl, ?_⟩; have n0_ := Aside0.mk (blk_below (g := gb1032) (o := .cells #[.int .i64 0, .bool false, .int .u64 0, .int .i64 0] 24 (0, 0)) (by refine kb_ ?_; refine bf_ NB1032_1035 ?_; refine bf_ NB1032_1035 ?_; refine bf_ NB1032_1035 ?_; refine bf_ NB1032_1035 ?_; exact BK1032.out) hb); have n1_ := Aside0.mk (blk_below (g := gb1033) (o := .cells #[.int .i64 x1034000_1, .bool x1034001_1, .int .u64 x1034002_1, .int .i64 x1034003_1] 24 (0, 0)) (by refine kb_ ?_; refine bf_ NB1033_1035 ?_; refine bf_ NB1033_1035 ?_; refine bf_ NB1033_1035 ?_; refine bf_ NB1033_1035 ?_; exact BK1033.out) hb); have n2_ := Aside0.mk (blk_below (g := gb1035) (o := .cells #[.int .i64 ((rd_T24 l1 x10_1).f0), .bool ((rd_T24 l1 x10_1).f1), .int .u64 ((rd_T24 l1 x10_1).f2), .int .i64 ((rd_T24 l1 x10_1).f3)] 24 (0, 0)) (by refine kb_ ?_; refine bp_ #[.int .i64 ((rd_T24 l1 x10_1).f0), .bool ((rd_T24 l1 x10_1).f1), .int .u64 ((rd_T24 l1 x10_1).f2), .int .i64 0] 3 ?_; refine bp_ #[.int .i64 ((rd_T24 l1 x10_1).f0), .bool ((rd_T24 l1 x10_1).f1), .int .u64 0, .int .i64 0] 2 ?_; refine bp_ #[.int .i64 ((rd_T24 l1 x10_1).f0), .bool false, .int .u64 0, .int .i64 0] 1 ?_; refine bp_ #[.int .i64 0, .bool false, .int .u64 0, .int .i64 0] 0 ?_; exact BK1035.out) hb); have n3_ := bq_ HB hb; clear BK1032; clear BK1033; clear BK1035; clear HB; have BK1032 := n0_; have BK1033 := n1_; have BK1035 := n2_; have HB := n3_; clear n0_ n1_ n2_ n3_; (try clear hb); (try clear hb2); (try clear hk); (try clear hi); obtain ⟨hcz16_0, hcz16_1, hcz16_2, hcz16_3, hfz16_0, hfz16_1, hfz16_2, hfz16_3⟩ := c4_ BK1033))
      go_roundg k1
      case measure => have := HK1.out; omega
      case rel => exact ⟨(wrap64 (x10_1 + 1)), (t1036), (t1037), (t1038), (t1039), (by first | rfl | (simp; done) | (simp [*]; done)), H', ⟨by have := HK1.out; omega⟩, ⟨by refine kb_ ?_; refine bf_ NB1032_1033 ?_; refine bf_ NB1032_1033 ?_; refine bf_ NB1032_1033 ?_; refine bf_ NB1032_1033 ?_; exact BK1032.out⟩, ⟨by refine kb_ ?_; refine bp_ #[.int .i64 t1036, .bool t1037, .int .u64 t1038, .int .i64 x1034003_1] 3 ?_; refine bp_ #[.int .i64 t1036, .bool t1037, .int .u64 x1034002_1, .int .i64 x1034003_1] 2 ?_; refine bp_ #[.int .i64 t1036, .bool x1034001_1, .int .u64 x1034002_1, .int .i64 x1034003_1] 1 ?_; refine bp_ #[.int .i64 x1034000_1, .bool x1034001_1, .int .u64 x1034002_1, .int .i64 x1034003_1] 0 ?_; exact BK1033.out⟩, ⟨bw_ HB.out⟩⟩
     ·rw [if_neg c7] at H
      exact absurd H (by simp)
    ·rw [if_neg c6] at H
     exact absurd H (by simp)
   ·rw [if_neg c5] at H
    have c5b0 : decide (x10_1 < (l1.length : Int)) = false := decide_eq_false c5
    clear c5
    simp only [Option.some.injEq, Prod.mk.injEq] at H
    obtain ⟨rfl, rfl, rfl, rfl⟩ := H
    have hnb17 := NB1033_1032.out
    have hnc17 := NB1032_1033.out
    obtain ⟨hcz18_0, hcz18_1, hcz18_2, hcz18_3, hfz18_0, hfz18_1, hfz18_2, hfz18_3⟩ := c4_ BK1033
    obtain ⟨hcz19_0, hcz19_1, hcz19_2, hcz19_3, hfz19_0, hfz19_1, hfz19_2, hfz19_3⟩ := c4_ BK1032
    go_wp2
    refine bodyPost_ret (results_cell_row rfl _ _ gb1032 24 #[.int .i64 x1034000_1, .bool x1034001_1, .int .u64 x1034002_1, .int .i64 x1034003_1] (0, 0) _ rfl (by refine kb_ ?_; refine bp_ #[.int .i64 x1034000_1, .bool x1034001_1, .int .u64 x1034002_1, .int .i64 0] 3 ?_; refine bp_ #[.int .i64 x1034000_1, .bool x1034001_1, .int .u64 0, .int .i64 0] 2 ?_; refine bp_ #[.int .i64 x1034000_1, .bool false, .int .u64 0, .int .i64 0] 1 ?_; refine bp_ #[.int .i64 0, .bool false, .int .u64 0, .int .i64 0] 0 ?_; exact BK1032.out) Try.underlying24 rfl (by kernel_rfl)) rfl ?_
    exact ⟨rf_, bw_ HB.out⟩

/-! ### pelorusref06_Sum: function 29 -/
theorem pelorusref06_Sum.tab7 : rtab .any (opsOf Try.f29 7) = pelorusref06_Sum.T7 := by kernel_rfl
theorem pelorusref06_Sum.bits7 : waitsOk pelorusref06_Sum.T7.2 pelorusref06_Sum.B7 = true := by kernel_rfl
set_option maxHeartbeats 8000000 in
set_option maxRecDepth 100000 in
theorem pelorusref06_Sum.calls (k : Nat) (a0 : Bool) (A1 : Option Addr) (c1 : Nat) (l1 : List (S24)) (r1 : Int) (r2 : Bool) (r3 : Int) (r4 : Int) (w : World) (hr1 : Kd.C k24 w A1 l1.length l1) (hc1 : l1.length ≤ c1) (h : pelorusref06_Sum.f k a0 l1 = some (r1, r2, r3, r4)) :
  Calls Try.prog 29 #[.bool a0, .slice A1 l1.length c1] w fun e w' => e = .returned (.agg #[.int .i64 r1, .bool r2, .int .u64 r3, .int .i64 r4]) ∧ Below w.heap.size w w' := by
 have hu24 := Try.underlying24
 have HR1 := Aside0.mk hr1
 have HC1 := Aside0.mk hc1
 clear hr1 hc1
 have HB := Aside0.mk (Below.refl w.heap.size w)
 have H : (pelorusref06_Sum.l0 k a0 l1 0 0 false 0 0) = some (r1, r2, r3, r4) := h
 clear h
 have H' := Aside0.mk H
 clear H
 go_enter Try.func29, Try.ntmps29
 go_wp2_with (first | ((with_reducible refine gate_dst (N := 4) rfl ?_); refine bx_ 4 #[.int .i64 0, .bool false, .int .u64 0, .int .i64 0] 24 ?_; intro gb1040 hg w3 hbox hb; have n0_ := bq_ HB hb; have n1_ := Aside0.mk (hbox); have n2_ := ge_ hg HB; have n3_ := ge_ hg HB; clear HB; have HB := n0_; have BK1040 := n1_; have GW1040 := n2_; have GE1040 := n3_; clear n0_ n1_ n2_ n3_; clear hb hbox hg) | ((with_reducible refine gate_dst (N := 5) rfl ?_); refine bx_ 5 #[.int .i64 0, .bool false, .int .u64 0, .int .i64 0] 24 ?_; intro gb1041 hg w4 hbox hb; have n0_ := kq_ BK1040 hb; have n1_ := bq_ HB hb; have n2_ := Aside0.mk (hbox); have n3_ := ge_ hg HB; have n4_ := ge_ hg HB; have n5_ := nb_ hg BK1040; have n6_ := nc_ hg BK1040; clear BK1040; clear HB; have BK1040 := n0_; have HB := n1_; have BK1041 := n2_; have GW1041 := n3_; have GE1041 := n4_; have NB1040_1041 := n5_; have NB1041_1040 := n6_; clear n0_ n1_ n2_ n3_ n4_ n5_ n6_; clear hb hbox hg; have hnb5 := NB1041_1040.out; have hnc5 := NB1040_1041.out; obtain ⟨hcz6_0, hcz6_1, hcz6_2, hcz6_3, hfz6_0, hfz6_1, hfz6_2, hfz6_3⟩ := c4_ BK1041))
 go_loopg [6] k (fun kq v6 w' => ∃ (x6_1 : Int) (x1042000_1 : Int) (x1042001_1 : Bool) (x1042002_1 : Int) (x1042003_1 : Int), v6 = .int .i64 x6_1 ∧ Aside0 (pelorusref06_Sum.l0 kq a0 l1 x6_1 x1042000_1 x1042001_1 x1042002_1 x1042003_1 = some (r1, r2, r3, r4)) ∧ Aside0 (kq ≤ k) ∧ Aside0 (w'.heap[gb1040]? = some (.cells #[.int .i64 0, .bool false, .int .u64 0, .int .i64 0] 24 (0, 0))) ∧ Aside0 (w'.heap[gb1041]? = some (.cells #[.int .i64 x1042000_1, .bool x1042001_1, .int .u64 x1042002_1, .int .i64 x1042003_1] 24 (0, 0))) ∧ Aside0 (Below w.heap.size w w'))
 case atStart => exact ⟨(0), (0), (false), (0), (0), (by first | rfl | (simp; done) | (simp [*]; done)), H', ⟨Nat.le_refl _⟩, ⟨by refine kb_ ?_; refine bf_ NB1040_1041 ?_; refine bf_ NB1040_1041 ?_; refine bf_ NB1040_1041 ?_; refine bf_ NB1040_1041 ?_; exact BK1040.out⟩, ⟨by refine kb_ ?_; refine bp_ #[.int .i64 0, .bool false, .int .u64 0, .int .i64 0] 3 ?_; refine bp_ #[.int .i64 0, .bool false, .int .u64 0, .int .i64 0] 2 ?_; refine bp_ #[.int .i64 0, .bool false, .int .u64 0, .int .i64 0] 1 ?_; refine bp_ #[.int .i64 0, .bool false, .int .u64 0, .int .i64 0] 0 ?_; exact BK1041.out⟩, ⟨bw_ HB.out⟩⟩
 case round =>
  clear H'
  try clear c1
  try clear c2
  try clear p2
  try clear c5
  try clear hcz6_0 hcz6_1 hcz6_2 hcz6_3
  try clear hfz6_0 hfz6_1 hfz6_2 hfz6_3
  obtain ⟨x6_1, x1042000_1, x1042001_1, x1042002_1, x1042003_1, rfl, HA, HK1, BK1040, BK1041, HB⟩ := hrel
  cases gk with
  | zero => exact absurd HA.out (by simp [pelorusref06_Sum.l0])
  | succ k1 =>
   have H := HA.out
   clear HA
   simp only [pelorusref06_Sum.l0] at H
   by_cases c7 : x6_1 < (l1.length : Int)
   ·rw [if_pos c7] at H
    have c7b0 : decide (x6_1 < (l1.length : Int)) = true := decide_eq_true c7
    clear c7
    by_cases c8 : x6_1 = 0
    ·rw [if_pos c8] at H
     have c8b0 : (x6_1 == 0) = true := beq_iff_eq.mpr c8
     have c8b1 : (x6_1 != 0) = false := bne_eq_false_iff_eq.mpr c8
     clear c8
     by_cases c9 : 0 ≤ x6_1
     ·rw [if_pos c9] at H
      have c9b0 : decide (0 ≤ x6_1) = true := decide_eq_true c9
      clear c9
      replace H := Option.bind_eq_some_iff.mp H
      obtain ⟨⟨t1043, t1044, t1045, t1046⟩, A100, H⟩ := H
      (try dsimp only at H)
      have A10 := Aside0.mk A100
      clear A100
      have H' := Aside0.mk H
      clear H
      have p1042 : 0 ≤ (x6_1 : Int) := of_decide_eq_true (by first | (with_reducible assumption) | assumption)
      have q1042 : x6_1 < (l1.length : Int) := of_decide_eq_true (by first | (with_reducible assumption) | assumption)
      obtain ⟨ad1042, e1042, hx1042_0, hx1042_1, hx1042_2, hx1042_3⟩ := at_T24 HR1.out x6_1 p1042 q1042
      cases e1042
      replace hx1042_0 := (HB.out.cell (World.block_lt_of_cell? w _ hx1042_0)).trans hx1042_0
      replace hx1042_1 := (HB.out.cell (World.block_lt_of_cell? w _ hx1042_1)).trans hx1042_1
      replace hx1042_2 := (HB.out.cell (World.block_lt_of_cell? w _ hx1042_2)).trans hx1042_2
      replace hx1042_3 := (HB.out.cell (World.block_lt_of_cell? w _ hx1042_3)).trans hx1042_3
      replace p1042 := eq_true p1042
      replace q1042 := eq_true q1042
      go_wp2_with (first | ((with_reducible refine gate_callee (f := 37) rfl ?_); refine gl_ (some 20) Try.func37 #[.agg #[.int .i64 ((rd_T24 l1 x6_1).f0), .bool ((rd_T24 l1 x6_1).f1), .int .u64 ((rd_T24 l1 x6_1).f2), .int .i64 ((rd_T24 l1 x6_1).f3)]] ?_; (with_reducible refine (pelorusref06_Fair.calls ((rd_T24 l1 x6_1).f0) ((rd_T24 l1 x6_1).f1) ((rd_T24 l1 x6_1).f2) ((rd_T24 l1 x6_1).f3) t1043 t1044 t1045 t1046 _ A10.out).mono ?_); rintro e w11 ⟨rfl, hb⟩; refine ⟨_, rfl, ?_⟩; have n0_ := kq_ BK1040 hb; have n1_ := kq_ BK1041 hb; have n2_ := bq_ HB hb; clear BK1040; clear BK1041; clear HB; have BK1040 := n0_; have BK1041 := n1_; have HB := n2_; clear n0_ n1_ n2_; (try clear hb); (try clear hb2); (try clear hk); (try clear hi); have hnb12 := NB1041_1040.out; have hnc12 := NB1040_1041.out; obtain ⟨hcz13_0, hcz13_1, hcz13_2, hcz13_3, hfz13_0, hfz13_1, hfz13_2, hfz13_3⟩ := c4_ BK1041))
      go_roundg k1
      case measure => have := HK1.out; omega
      case rel => exact ⟨(wrap64 (x6_1 + 1)), (t1043), (t1044), (t1045), (t1046), (by first | rfl | (simp; done) | (simp [*]; done)), H', ⟨by have := HK1.out; omega⟩, ⟨by refine kb_ ?_; refine bf_ NB1040_1041 ?_; refine bf_ NB1040_1041 ?_; refine bf_ NB1040_1041 ?_; refine bf_ NB1040_1041 ?_; exact BK1040.out⟩, ⟨by refine kb_ ?_; refine bp_ #[.int .i64 t1043, .bool t1044, .int .u64 t1045, .int .i64 x1042003_1] 3 ?_; refine bp_ #[.int .i64 t1043, .bool t1044, .int .u64 x1042002_1, .int .i64 x1042003_1] 2 ?_; refine bp_ #[.int .i64 t1043, .bool x1042001_1, .int .u64 x1042002_1, .int .i64 x1042003_1] 1 ?_; refine bp_ #[.int .i64 x1042000_1, .bool x1042001_1, .int .u64 x1042002_1, .int .i64 x1042003_1] 0 ?_; exact BK1041.out⟩, ⟨bw_ HB.out⟩⟩
     ·rw [if_neg c9] at H
      exact absurd H (by simp)
    ·rw [if_neg c8] at H
     have c8b0 : (x6_1 == 0) = false := beq_eq_false_iff_ne.mpr c8
     have c8b1 : (x6_1 != 0) = true := bne_iff_ne.mpr c8
     by_cases c14 : 0 ≤ x6_1
     ·rw [if_pos c14] at H
      have c14b0 : decide (0 ≤ x6_1) = true := decide_eq_true c14
      clear c14
      replace H := Option.bind_eq_some_iff.mp H
      obtain ⟨⟨t1048, t1049, t1050, t1051⟩, A150, H⟩ := H
      (try dsimp only at H)
      have A15 := Aside0.mk A150
      clear A150
      have H' := Aside0.mk H
      clear H
      try go_wp2
      have n0_ := Aside0.mk (blk_drew BK1040.out)
      have n1_ := Aside0.mk (blk_drew BK1041.out)
      have n2_ := Aside0.mk (below_drew1 HB.out)
      clear BK1040
      clear BK1041
      clear HB
      have BK1040 := n0_
      have BK1041 := n1_
      have HB := n2_
      clear n0_ n1_ n2_
      have p1047 : 0 ≤ (x6_1 : Int) := of_decide_eq_true (by first | (with_reducible assumption) | assumption)
      have q1047 : x6_1 < (l1.length : Int) := of_decide_eq_true (by first | (with_reducible assumption) | assumption)
      obtain ⟨ad1047, e1047, hx1047_0, hx1047_1, hx1047_2, hx1047_3⟩ := at_T24 HR1.out x6_1 p1047 q1047
      have hw1047_3 := hx1047_3
      have hw1047_2 := hx1047_2
      have hw1047_1 := hx1047_1
      have hw1047_0 := hx1047_0
      cases e1047
      replace hx1047_0 := (HB.out.cell (World.block_lt_of_cell? w _ hx1047_0)).trans hx1047_0
      replace hx1047_1 := (HB.out.cell (World.block_lt_of_cell? w _ hx1047_1)).trans hx1047_1
      replace hx1047_2 := (HB.out.cell (World.block_lt_of_cell? w _ hx1047_2)).trans hx1047_2
      replace hx1047_3 := (HB.out.cell (World.block_lt_of_cell? w _ hx1047_3)).trans hx1047_3
      replace p1047 := eq_true p1047
      replace q1047 := eq_true q1047
      refine start_ (n := 8) (S := fun w' => w'.cell? ⟨gb1041, 0, none⟩ = some (.int .i64 x1042000_1) ∧ w'.cell? ⟨gb1041, 1, none⟩ = some (.bool x1042001_1) ∧ w'.cell? ⟨gb1041, 2, none⟩ = some (.int .u64 x1042002_1) ∧ w'.cell? ⟨gb1041, 3, none⟩ = some (.int .i64 x1042003_1) ∧ w'.cell? (ad1047.add ((x6_1).toNat * 4)) = some (.int .i64 ((rd_T24 l1 x6_1).f0)) ∧ w'.cell? ⟨(ad1047.add ((x6_1).toNat * 4)).block, (ad1047.add ((x6_1).toNat * 4)).off + 1, none⟩ = some (.bool ((rd_T24 l1 x6_1).f1)) ∧ w'.cell? ⟨(ad1047.add ((x6_1).toNat * 4)).block, (ad1047.add ((x6_1).toNat * 4)).off + 2, none⟩ = some (.int .u64 ((rd_T24 l1 x6_1).f2)) ∧ w'.cell? ⟨(ad1047.add ((x6_1).toNat * 4)).block, (ad1047.add ((x6_1).toNat * 4)).off + 3, none⟩ = some (.int .i64 ((rd_T24 l1 x6_1).f3))) (ds := [7]) #[false, false, false, false, false, false, false, false] (by kernel_rfl) rfl rfl ⟨(blk_cell BK1041.out 0).trans rfl, (blk_cell BK1041.out 1).trans rfl, (blk_cell BK1041.out 2).trans rfl, (blk_cell BK1041.out 3).trans rfl, ((HB.out.cell (World.block_lt_of_cell? w _ hw1047_0)).trans hw1047_0), ((HB.out.cell (World.block_lt_of_cell? w _ hw1047_1)).trans hw1047_1), ((HB.out.cell (World.block_lt_of_cell? w _ hw1047_2)).trans hw1047_2), ((HB.out.cell (World.block_lt_of_cell? w _ hw1047_3)).trans hw1047_3)⟩ (fun hHeld => ?_); refine with_tabW pelorusref06_Sum.tab7 pelorusref06_Sum.bits7 (fun HT_ HW_ => ?_)
      generalize wr.drew = w16 at BK1040 BK1041 HB hx1047_0 hx1047_1 hx1047_2 hx1047_3 hHeld ⊢
      refine pure_ (i := 1) (N := some 22) (v := ?_) (a' := ?_) #[false, true, false, false, false, false, false, false] rfl rfl (any_of HT_.out (by kernel_rfl)) (fun _ _ _ h => h) (Or.inl ⟨by rfl, ?_⟩) ?_ ?_
      rotate_left
      ·intro w'
       go_simp
       with_reducible rfl
      rotate_left
      ·exact pt_
      refine pure_ (i := 2) (N := some 23) (v := ?_) (a' := ?_) #[false, true, true, false, false, false, false, false] rfl rfl (any_of HT_.out (by kernel_rfl)) (fun _ _ _ h => h) (Or.inl ⟨by rfl, ?_⟩) ?_ ?_
      rotate_left
      ·intro w'
       go_simp
       with_reducible rfl
      rotate_left
      ·exact pt_
      refine pure_ (i := 3) (N := some 24) (v := ?_) (a' := ?_) #[false, true, true, true, false, false, false, false] rfl rfl (any_of HT_.out (by kernel_rfl)) (fun _ _ _ h => h) (Or.inl ⟨by rfl, ?_⟩) ?_ ?_
      rotate_left
      ·intro w'
       go_simp
       with_reducible rfl
      rotate_left
      ·exact pt_
      refine pure_ (i := 5) (N := some 26) (v := ?_) (a' := ?_) #[false, true, true, true, false, true, false, false] rfl rfl (any_of HT_.out (by kernel_rfl)) (fun _ _ _ h => h) (Or.inl ⟨by rfl, ?_⟩) ?_ ?_
      rotate_left
      ·intro w'
       go_simp
       with_reducible rfl
      rotate_left
      ·exact pt_
      refine take_ (i := 0) (N := some 21) (v := ?_) (a' := ?_) #[true, true, true, true, false, true, false, false] rfl rfl (take_ofW HT_.out HW_.out (by kernel_rfl)) (fun _ _ _ h => h) (Or.inl ⟨by rfl, ?_⟩) hHeld ?_ ?_
      rotate_left
      ·rintro w' ⟨s0, s1, s2, s3, s4, s5, s6, s7⟩
       go_simp
       with_reducible rfl
      rotate_left
      ·exact pt_
      refine take_ (i := 4) (N := some 25) (v := ?_) (a' := ?_) #[true, true, true, true, true, true, false, false] rfl rfl (take_ofW HT_.out HW_.out (by kernel_rfl)) (fun _ _ _ h => h) (Or.inl ⟨by rfl, ?_⟩) hHeld ?_ ?_
      rotate_left
      ·rintro w' ⟨s0, s1, s2, s3, s4, s5, s6, s7⟩
       go_simp
       with_reducible rfl
      rotate_left
      ·exact pt_
      refine one_ (i := 6) (N := some 27) #[true, true, true, true, true, true, true, false] rfl rfl (one_of HT_.out (by kernel_rfl)) (by decide) (fun K hK => ?_)
      refine gs_ Try.func15 #[.agg #[.int .i64 x1042000_1, .bool x1042001_1, .int .u64 x1042002_1, .int .i64 x1042003_1], .agg #[.int .i64 ((rd_T24 l1 x6_1).f0), .bool ((rd_T24 l1 x6_1).f1), .int .u64 ((rd_T24 l1 x6_1).f2), .int .i64 ((rd_T24 l1 x6_1).f3)], .bool a0] ?_
      with_reducible refine (pelorusref06_Add.calls k1 x1042000_1 x1042001_1 x1042002_1 x1042003_1 ((rd_T24 l1 x6_1).f0) ((rd_T24 l1 x6_1).f1) ((rd_T24 l1 x6_1).f2) ((rd_T24 l1 x6_1).f3) a0 t1048 t1049 t1050 t1051 _ A15.out).mono ?_
      rintro e w17 ⟨rfl, hb⟩
      refine ⟨_, rfl, ?_⟩
      have n0_ := kq_ BK1040 hb
      have n1_ := kq_ BK1041 hb
      have n2_ := bq_ HB hb
      clear BK1040
      clear BK1041
      clear HB
      have BK1040 := n0_
      have BK1041 := n1_
      have HB := n2_
      clear n0_ n1_ n2_
      (try clear hb)
      (try clear hb2)
      (try clear hk)
      (try clear hi)
      refine hK.out _ _ ⟨(blk_cell BK1041.out 0).trans rfl, (blk_cell BK1041.out 1).trans rfl, (blk_cell BK1041.out 2).trans rfl, (blk_cell BK1041.out 3).trans rfl, ((HB.out.cell (World.block_lt_of_cell? w _ hw1047_0)).trans hw1047_0), ((HB.out.cell (World.block_lt_of_cell? w _ hw1047_1)).trans hw1047_1), ((HB.out.cell (World.block_lt_of_cell? w _ hw1047_2)).trans hw1047_2), ((HB.out.cell (World.block_lt_of_cell? w _ hw1047_3)).trans hw1047_3)⟩ (fun hHeld => ?_)
      clear hK K
      refine norm_ (a' := ?_) ?_ ?_
      rotate_left
      ·show Act.put _ (some 27) _ = _
       exact pt_
      refine last_ (i := 7) (N := none) #[true, true, true, true, true, true, true, true] rfl rfl (one_of HT_.out (by kernel_rfl)) (by decide) (fun K hK => ?_)
      have hs18 : w17.cell? ⟨gb1041, 0, none⟩ = some (.int .i64 x1042000_1) := (blk_cell BK1041.out 0).trans rfl
      have hfs18 := fz_ BK1041 0
      have hns18_0 := NB1040_1041.out
      have hms18_0 := NB1041_1040.out
      have hs19 : w17.cell? ⟨gb1041, 1, none⟩ = some (.bool x1042001_1) := (blk_cell BK1041.out 1).trans rfl
      have hfs19 := fz_ BK1041 1
      have hns19_0 := NB1040_1041.out
      have hms19_0 := NB1041_1040.out
      have hs20 : w17.cell? ⟨gb1041, 2, none⟩ = some (.int .u64 x1042002_1) := (blk_cell BK1041.out 2).trans rfl
      have hfs20 := fz_ BK1041 2
      have hns20_0 := NB1040_1041.out
      have hms20_0 := NB1041_1040.out
      have hs21 : w17.cell? ⟨gb1041, 3, none⟩ = some (.int .i64 x1042003_1) := (blk_cell BK1041.out 3).trans rfl
      have hfs21 := fz_ BK1041 3
      have hns21_0 := NB1040_1041.out
      have hms21_0 := NB1041_1040.out
      refine skip_ (w1 := ?_) (by rfl) rfl ?_ ?_
      rotate_left
      ·go_simp
       rfl
      refine hK.out _ _ ?_
      clear hK K
      refine done_ (done_of HT_.out (by kernel_rfl)) ?_
      try go_wp2
      go_roundg k1
      case measure => have := HK1.out; omega
      case rel => exact ⟨(wrap64 (x6_1 + 1)), (t1048), (t1049), (t1050), (t1051), (by first | rfl | (simp; done) | (simp [*]; done)), H', ⟨by have := HK1.out; omega⟩, ⟨by refine kb_ ?_; refine bf_ NB1040_1041 ?_; refine bf_ NB1040_1041 ?_; refine bf_ NB1040_1041 ?_; refine bf_ NB1040_1041 ?_; exact BK1040.out⟩, ⟨by refine kb_ ?_; refine bp_ #[.int .i64 t1048, .bool t1049, .int .u64 t1050, .int .i64 x1042003_1] 3 ?_; refine bp_ #[.int .i64 t1048, .bool t1049, .int .u64 x1042002_1, .int .i64 x1042003_1] 2 ?_; refine bp_ #[.int .i64 t1048, .bool x1042001_1, .int .u64 x1042002_1, .int .i64 x1042003_1] 1 ?_; refine bp_ #[.int .i64 x1042000_1, .bool x1042001_1, .int .u64 x1042002_1, .int .i64 x1042003_1] 0 ?_; exact BK1041.out⟩, ⟨bw_ HB.out⟩⟩
     ·rw [if_neg c14] at H
      exact absurd H (by simp)
   ·rw [if_neg c7] at H
    have c7b0 : decide (x6_1 < (l1.length : Int)) = false := decide_eq_false c7
    clear c7
    simp only [Option.some.injEq, Prod.mk.injEq] at H
    obtain ⟨rfl, rfl, rfl, rfl⟩ := H
    have hnb22 := NB1041_1040.out
    have hnc22 := NB1040_1041.out
    obtain ⟨hcz23_0, hcz23_1, hcz23_2, hcz23_3, hfz23_0, hfz23_1, hfz23_2, hfz23_3⟩ := c4_ BK1041
    obtain ⟨hcz24_0, hcz24_1, hcz24_2, hcz24_3, hfz24_0, hfz24_1, hfz24_2, hfz24_3⟩ := c4_ BK1040
    go_wp2
    refine bodyPost_ret (results_cell_row rfl _ _ gb1040 24 #[.int .i64 x1042000_1, .bool x1042001_1, .int .u64 x1042002_1, .int .i64 x1042003_1] (0, 0) _ rfl (by refine kb_ ?_; refine bp_ #[.int .i64 x1042000_1, .bool x1042001_1, .int .u64 x1042002_1, .int .i64 0] 3 ?_; refine bp_ #[.int .i64 x1042000_1, .bool x1042001_1, .int .u64 0, .int .i64 0] 2 ?_; refine bp_ #[.int .i64 x1042000_1, .bool false, .int .u64 0, .int .i64 0] 1 ?_; refine bp_ #[.int .i64 0, .bool false, .int .u64 0, .int .i64 0] 0 ?_; exact BK1040.out) Try.underlying24 rfl (by kernel_rfl)) rfl ?_
    exact ⟨rf_, bw_ HB.out⟩

end Go.Proofs.Ythlhogcnfaiphaa.PA
