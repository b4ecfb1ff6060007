-- Laid by this work's own program; Lean checks it.
import Derived.Test.YtkemnoejpbknhaaDoorPAx0
import Derived.Test.YtkemnoejpbknhaaDoorPAx2
import Derived.Test.YtkemnoejpbknhaaDoorPAx4
import Derived.Test.YtkemnoejpbknhaaDoorPAx8
import Derived.Test.YtkemnoejpbknhaaDoorPAx10
namespace Go.Proofs.YtkemnoejpbknhaaDoor.PA
open Go.RowKit Go.Proofs.YtkemnoejpbknhaaDoorW.PrintWords Go.Proofs.YtkemnoejpbknhaaDoorW.PrintLast Go.Proofs.YtkemnoejpbknhaaDoorW.PrintMore
attribute [local go_sem] max2_int min2_int max_two min_two max_three min_three max_four min_four   -- for this text's walks alone
set_option linter.unusedVariables false
set_option linter.unusedSimpArgs false

attribute [local go_sem ↓ high] isSome_set_
/-! ### num_Least: function 19 -/
set_option maxHeartbeats 8000000 in
set_option maxRecDepth 100000 in
theorem num_Least.calls (k : Nat) (A0 : Option Addr) (c0 : Nat) (l0 : List (S30)) (r1 : Int) (r2 : Bool) (r3 : Int) (r4 : Int) (w : World) (hr0 : Kd.C k30 w A0 l0.length l0) (hc0 : l0.length ≤ c0) (h : num_Least.f k l0 = some (r1, r2, r3, r4)) :
  Calls Tryd.prog 19 #[.slice A0 l0.length c0] w fun e w' => e = .returned (.agg #[.int .i64 r1, .bool r2, .int .u64 r3, .int .i64 r4]) ∧ Below w.heap.size w w' := by
 have hu30 := Tryd.underlying30
 have HR0 := Aside0.mk hr0
 have HC0 := Aside0.mk hc0
 clear hr0 hc0
 have HB := Aside0.mk (Below.refl w.heap.size w)
 have H : ((num_Infinite.f false).bind fun bt545 => (num_Least.l0 k l0 (l0.length : Int) 0 bt545.1 bt545.2.1 bt545.2.2.1 bt545.2.2.2)) = some (r1, r2, r3, r4) := h
 clear h
 replace H := Option.bind_eq_some_iff.mp H
 obtain ⟨⟨t545, t546, t547, t548⟩, A20, H⟩ := H
 (try dsimp only at H)
 have A2 := Aside0.mk A20
 clear A20
 have H' := Aside0.mk H
 clear H
 go_enter Tryd.func19, Tryd.ntmps19
 go_wp2_with (first | ((with_reducible refine gate_dst (N := 2) rfl ?_); refine bx_ 2 #[.int .i64 0, .bool false, .int .u64 0, .int .i64 0] 30 ?_; intro gb544 hg w3 hbox hb; have BK544 := Aside0.mk (hbox); have GW544 := ge_ hg HB; have GE544 := ge_ hg HB; replace HB := bq_ HB hb; clear hb hbox hg) | ((with_reducible refine gate_callee (f := 33) rfl ?_); refine gl_ (some 6) Tryd.func33 #[.bool false] ?_; (with_reducible refine (num_Infinite.calls false t545 t546 t547 t548 _ A2.out).mono ?_); rintro e w4 ⟨rfl, hb⟩; refine ⟨_, rfl, ?_⟩; replace BK544 := kq_ BK544 hb; replace HB := bq_ HB hb; (try clear hb); (try clear hb2); (try clear hk); (try clear hi)) | ((with_reducible refine gate_dst (N := 3) rfl ?_); refine bx_ 3 #[.int .i64 0, .bool false, .int .u64 0, .int .i64 0] 30 ?_; intro gb549 hg w5 hbox hb; have BK549 := Aside0.mk (hbox); have GW549 := ge_ hg HB; have GE549 := ge_ hg HB; have NB544_549 := nb_ hg BK544; have NB549_544 := nc_ hg BK544; replace BK544 := kq_ BK544 hb; replace HB := bq_ HB hb; clear hb hbox hg; have hnb6 := NB549_544.out; have hnc6 := NB544_549.out; obtain ⟨hcz7_0, hcz7_1, hcz7_2, hcz7_3, hfz7_0, hfz7_1, hfz7_2, hfz7_3⟩ := c4_ BK549))
 go_loopg [9] k (fun kq v9 w' => ∃ (x9_1 : Int) (x550000_1 : Int) (x550001_1 : Bool) (x550002_1 : Int) (x550003_1 : Int), v9 = .int .i64 x9_1 ∧ Aside0 (num_Least.l0 kq l0 (l0.length : Int) x9_1 x550000_1 x550001_1 x550002_1 x550003_1 = some (r1, r2, r3, r4)) ∧ Aside0 (kq ≤ k) ∧ Aside0 (w'.heap[gb544]? = some (.cells #[.int .i64 0, .bool false, .int .u64 0, .int .i64 0] 30 (0, 0))) ∧ Aside0 (w'.heap[gb549]? = some (.cells #[.int .i64 x550000_1, .bool x550001_1, .int .u64 x550002_1, .int .i64 x550003_1] 30 (0, 0))) ∧ Aside0 (Below w.heap.size w w'))
 case atStart => exact ⟨(0), (t545), (t546), (t547), (t548), (by first | rfl | (simp; done) | (simp [*]; done)), H', ⟨Nat.le_refl _⟩, ⟨by refine kb_ ?_; refine bf_ NB544_549 ?_; refine bf_ NB544_549 ?_; refine bf_ NB544_549 ?_; refine bf_ NB544_549 ?_; exact BK544.out⟩, ⟨by refine kb_ ?_; refine bp_ #[.int .i64 t545, .bool t546, .int .u64 t547, .int .i64 0] 3 ?_; refine bp_ #[.int .i64 t545, .bool t546, .int .u64 0, .int .i64 0] 2 ?_; refine bp_ #[.int .i64 t545, .bool false, .int .u64 0, .int .i64 0] 1 ?_; refine bp_ #[.int .i64 0, .bool false, .int .u64 0, .int .i64 0] 0 ?_; exact BK549.out⟩, ⟨bw_ HB.out⟩⟩
 case round =>
  clear H'
  try clear c1
  try clear p2
  try clear c3
  try clear c6
  try clear hcz7_0 hcz7_1 hcz7_2 hcz7_3
  try clear hfz7_0 hfz7_1 hfz7_2 hfz7_3
  obtain ⟨x9_1, x550000_1, x550001_1, x550002_1, x550003_1, rfl, HA, HK1, BK544, BK549, HB⟩ := hrel
  cases gk with
  | zero => exact absurd HA.out (by simp [num_Least.l0])
  | succ k1 =>
   have H := HA.out
   clear HA
   simp only [num_Least.l0] at H
   by_cases c8 : x9_1 < (l0.length : Int)
   ·rw [if_pos c8] at H
    have c8b0 : decide (x9_1 < (l0.length : Int)) = true := decide_eq_true c8
    clear c8
    by_cases c9 : 0 ≤ x9_1
    ·rw [if_pos c9] at H
     have c9b0 : decide (0 ≤ x9_1) = true := decide_eq_true c9
     clear c9
     by_cases c10 : x9_1 < (l0.length : Int)
     ·rw [if_pos c10] at H
      have c10b0 : decide (x9_1 < (l0.length : Int)) = true := decide_eq_true c10
      clear c10
      replace H := Option.bind_eq_some_iff.mp H
      obtain ⟨t552, A110, H⟩ := H
      (try dsimp only at H)
      have A11 := Aside0.mk A110
      clear A110
      by_cases c12 : t552 < 0
      ·rw [if_pos c12] at H
       have c12b0 : decide (t552 < 0) = true := decide_eq_true c12
       clear c12
       replace H := Option.bind_eq_some_iff.mp H
       obtain ⟨⟨t553, t554, t555, t556⟩, A130, H⟩ := H
       (try dsimp only at H)
       have A13 := Aside0.mk A130
       clear A130
       have H' := Aside0.mk H
       clear H
       have p550 : 0 ≤ (x9_1 : Int) := of_decide_eq_true (by first | (with_reducible assumption) | assumption)
       have q550 : x9_1 < (l0.length : Int) := of_decide_eq_true (by first | (with_reducible assumption) | assumption)
       obtain ⟨ad550, e550, hx550_0, hx550_1, hx550_2, hx550_3⟩ := at_T30 HR0.out x9_1 p550 q550
       cases e550
       replace hx550_0 := (HB.out.cell (World.block_lt_of_cell? w _ hx550_0)).trans hx550_0
       replace hx550_1 := (HB.out.cell (World.block_lt_of_cell? w _ hx550_1)).trans hx550_1
       replace hx550_2 := (HB.out.cell (World.block_lt_of_cell? w _ hx550_2)).trans hx550_2
       replace hx550_3 := (HB.out.cell (World.block_lt_of_cell? w _ hx550_3)).trans hx550_3
       replace p550 := eq_true p550
       replace q550 := eq_true q550
       go_wp2_with (first | ((with_reducible refine gate_dst (N := 5) rfl ?_); refine bx_ 5 #[.int .i64 0, .bool false, .int .u64 0, .int .i64 0] 30 ?_; intro gb551 hg w14 hbox hb; have BK551 := Aside0.mk (hbox); have GW551 := ge_ hg HB; have GE551 := ge_ hg HB; have NB544_551 := nb_ hg BK544; have NB551_544 := nc_ hg BK544; have NB549_551 := nb_ hg BK549; have NB551_549 := nc_ hg BK549; replace BK544 := kq_ BK544 hb; replace BK549 := kq_ BK549 hb; replace HB := bq_ HB hb; clear hb hbox hg; have hnb15 := NB551_544.out; have hnc15 := NB544_551.out; have hnb16 := NB551_549.out; have hnc16 := NB549_551.out; obtain ⟨hcz17_0, hcz17_1, hcz17_2, hcz17_3, hfz17_0, hfz17_1, hfz17_2, hfz17_3⟩ := c4_ BK551; have hnb18 := NB549_544.out; have hnc18 := NB544_549.out; obtain ⟨hcz19_0, hcz19_1, hcz19_2, hcz19_3, hfz19_0, hfz19_1, hfz19_2, hfz19_3⟩ := c4_ BK549) | ((with_reducible refine gate_callee (f := 17) rfl ?_); refine gl_ (some 15) Tryd.func17 #[.agg #[.int .i64 ((rd_T30 l0 x9_1).f0), .bool ((rd_T30 l0 x9_1).f1), .int .u64 ((rd_T30 l0 x9_1).f2), .int .i64 ((rd_T30 l0 x9_1).f3)], .agg #[.int .i64 x550000_1, .bool x550001_1, .int .u64 x550002_1, .int .i64 x550003_1]] ?_; (with_reducible refine (num_Cmp.calls ((rd_T30 l0 x9_1).f0) ((rd_T30 l0 x9_1).f1) ((rd_T30 l0 x9_1).f2) ((rd_T30 l0 x9_1).f3) x550000_1 x550001_1 x550002_1 x550003_1 t552 _ A11.out).mono ?_); rintro e w20 ⟨rfl, hb⟩; refine ⟨_, rfl, ?_⟩; have n0_ := Aside0.mk (blk_below (g := gb544) (o := .cells #[.int .i64 0, .bool false, .int .u64 0, .int .i64 0] 30 (0, 0)) (by refine kb_ ?_; refine bf_ NB544_551 ?_; refine bf_ NB544_551 ?_; refine bf_ NB544_551 ?_; refine bf_ NB544_551 ?_; exact BK544.out) hb); have n1_ := Aside0.mk (blk_below (g := gb549) (o := .cells #[.int .i64 x550000_1, .bool x550001_1, .int .u64 x550002_1, .int .i64 x550003_1] 30 (0, 0)) (by refine kb_ ?_; refine bf_ NB549_551 ?_; refine bf_ NB549_551 ?_; refine bf_ NB549_551 ?_; refine bf_ NB549_551 ?_; exact BK549.out) hb); have n2_ := Aside0.mk (blk_below (g := gb551) (o := .cells #[.int .i64 ((rd_T30 l0 x9_1).f0), .bool ((rd_T30 l0 x9_1).f1), .int .u64 ((rd_T30 l0 x9_1).f2), .int .i64 ((rd_T30 l0 x9_1).f3)] 30 (0, 0)) (by refine kb_ ?_; refine bp_ #[.int .i64 ((rd_T30 l0 x9_1).f0), .bool ((rd_T30 l0 x9_1).f1), .int .u64 ((rd_T30 l0 x9_1).f2), .int .i64 0] 3 ?_; refine bp_ #[.int .i64 ((rd_T30 l0 x9_1).f0), .bool ((rd_T30 l0 x9_1).f1), .int .u64 0, .int .i64 0] 2 ?_; refine bp_ #[.int .i64 ((rd_T30 l0 x9_1).f0), .bool false, .int .u64 0, .int .i64 0] 1 ?_; refine bp_ #[.int .i64 0, .bool false, .int .u64 0, .int .i64 0] 0 ?_; exact BK551.out) hb); have n3_ := bq_ HB hb; clear BK544; clear BK549; clear BK551; clear HB; have BK544 := n0_; have BK549 := n1_; have BK551 := n2_; have HB := n3_; clear n0_ n1_ n2_ n3_; (try clear hb); (try clear hb2); (try clear hk); (try clear hi); obtain ⟨hcz21_0, hcz21_1, hcz21_2, hcz21_3, hfz21_0, hfz21_1, hfz21_2, hfz21_3⟩ := c4_ BK551) | ((with_reducible refine gate_callee (f := 52) rfl ?_); refine gl_ (some 18) Tryd.func52 #[.agg #[.int .i64 ((rd_T30 l0 x9_1).f0), .bool ((rd_T30 l0 x9_1).f1), .int .u64 ((rd_T30 l0 x9_1).f2), .int .i64 ((rd_T30 l0 x9_1).f3)]] ?_; (with_reducible refine (num_fair.calls ((rd_T30 l0 x9_1).f0) ((rd_T30 l0 x9_1).f1) ((rd_T30 l0 x9_1).f2) ((rd_T30 l0 x9_1).f3) t553 t554 t555 t556 _ A13.out).mono ?_); rintro e w22 ⟨rfl, hb⟩; refine ⟨_, rfl, ?_⟩; replace BK544 := kq_ BK544 hb; replace BK549 := kq_ BK549 hb; replace BK551 := Aside0.mk (blk_below (g := gb551) (o := .cells #[.int .i64 ((rd_T30 l0 x9_1).f0), .bool ((rd_T30 l0 x9_1).f1), .int .u64 ((rd_T30 l0 x9_1).f2), .int .i64 ((rd_T30 l0 x9_1).f3)] 30 (0, 0)) (kb_ BK551.out) hb); replace HB := bq_ HB hb; (try clear hb); (try clear hb2); (try clear hk); (try clear hi); obtain ⟨hcz23_0, hcz23_1, hcz23_2, hcz23_3, hfz23_0, hfz23_1, hfz23_2, hfz23_3⟩ := c4_ BK549))
       go_roundg k1
       case measure => have := HK1.out; omega
       case rel => exact ⟨(wrap64 (x9_1 + 1)), (t553), (t554), (t555), (t556), (by first | rfl | (simp; done) | (simp [*]; done)), H', ⟨by have := HK1.out; omega⟩, ⟨by refine kb_ ?_; refine bf_ NB544_549 ?_; refine bf_ NB544_549 ?_; refine bf_ NB544_549 ?_; refine bf_ NB544_549 ?_; exact BK544.out⟩, ⟨by refine kb_ ?_; refine bp_ #[.int .i64 t553, .bool t554, .int .u64 t555, .int .i64 x550003_1] 3 ?_; refine bp_ #[.int .i64 t553, .bool t554, .int .u64 x550002_1, .int .i64 x550003_1] 2 ?_; refine bp_ #[.int .i64 t553, .bool x550001_1, .int .u64 x550002_1, .int .i64 x550003_1] 1 ?_; refine bp_ #[.int .i64 x550000_1, .bool x550001_1, .int .u64 x550002_1, .int .i64 x550003_1] 0 ?_; exact BK549.out⟩, ⟨bw_ HB.out⟩⟩
      ·rw [if_neg c12] at H
       have c12b0 : decide (t552 < 0) = false := decide_eq_false c12
       clear c12
       have H' := Aside0.mk H
       clear H
       have p550 : 0 ≤ (x9_1 : Int) := of_decide_eq_true (by first | (with_reducible assumption) | assumption)
       have q550 : x9_1 < (l0.length : Int) := of_decide_eq_true (by first | (with_reducible assumption) | assumption)
       obtain ⟨ad550, e550, hx550_0, hx550_1, hx550_2, hx550_3⟩ := at_T30 HR0.out x9_1 p550 q550
       cases e550
       replace hx550_0 := (HB.out.cell (World.block_lt_of_cell? w _ hx550_0)).trans hx550_0
       replace hx550_1 := (HB.out.cell (World.block_lt_of_cell? w _ hx550_1)).trans hx550_1
       replace hx550_2 := (HB.out.cell (World.block_lt_of_cell? w _ hx550_2)).trans hx550_2
       replace hx550_3 := (HB.out.cell (World.block_lt_of_cell? w _ hx550_3)).trans hx550_3
       replace p550 := eq_true p550
       replace q550 := eq_true q550
       go_wp2_with (first | ((with_reducible refine gate_dst (N := 5) rfl ?_); refine bx_ 5 #[.int .i64 0, .bool false, .int .u64 0, .int .i64 0] 30 ?_; intro gb551 hg w24 hbox hb; have BK551 := Aside0.mk (hbox); have GW551 := ge_ hg HB; have GE551 := ge_ hg HB; have NB544_551 := nb_ hg BK544; have NB551_544 := nc_ hg BK544; have NB549_551 := nb_ hg BK549; have NB551_549 := nc_ hg BK549; replace BK544 := kq_ BK544 hb; replace BK549 := kq_ BK549 hb; replace HB := bq_ HB hb; clear hb hbox hg; have hnb25 := NB551_544.out; have hnc25 := NB544_551.out; have hnb26 := NB551_549.out; have hnc26 := NB549_551.out; obtain ⟨hcz27_0, hcz27_1, hcz27_2, hcz27_3, hfz27_0, hfz27_1, hfz27_2, hfz27_3⟩ := c4_ BK551; have hnb28 := NB549_544.out; have hnc28 := NB544_549.out; obtain ⟨hcz29_0, hcz29_1, hcz29_2, hcz29_3, hfz29_0, hfz29_1, hfz29_2, hfz29_3⟩ := c4_ BK549) | ((with_reducible refine gate_callee (f := 17) rfl ?_); refine gl_ (some 15) Tryd.func17 #[.agg #[.int .i64 ((rd_T30 l0 x9_1).f0), .bool ((rd_T30 l0 x9_1).f1), .int .u64 ((rd_T30 l0 x9_1).f2), .int .i64 ((rd_T30 l0 x9_1).f3)], .agg #[.int .i64 x550000_1, .bool x550001_1, .int .u64 x550002_1, .int .i64 x550003_1]] ?_; (with_reducible refine (num_Cmp.calls ((rd_T30 l0 x9_1).f0) ((rd_T30 l0 x9_1).f1) ((rd_T30 l0 x9_1).f2) ((rd_T30 l0 x9_1).f3) x550000_1 x550001_1 x550002_1 x550003_1 t552 _ A11.out).mono ?_); rintro e w30 ⟨rfl, hb⟩; refine ⟨_, rfl, ?_⟩; have n0_ := Aside0.mk (blk_below (g := gb544) (o := .cells #[.int .i64 0, .bool false, .int .u64 0, .int .i64 0] 30 (0, 0)) (by refine kb_ ?_; refine bf_ NB544_551 ?_; refine bf_ NB544_551 ?_; refine bf_ NB544_551 ?_; refine bf_ NB544_551 ?_; exact BK544.out) hb); have n1_ := Aside0.mk (blk_below (g := gb549) (o := .cells #[.int .i64 x550000_1, .bool x550001_1, .int .u64 x550002_1, .int .i64 x550003_1] 30 (0, 0)) (by refine kb_ ?_; refine bf_ NB549_551 ?_; refine bf_ NB549_551 ?_; refine bf_ NB549_551 ?_; refine bf_ NB549_551 ?_; exact BK549.out) hb); have n2_ := Aside0.mk (blk_below (g := gb551) (o := .cells #[.int .i64 ((rd_T30 l0 x9_1).f0), .bool ((rd_T30 l0 x9_1).f1), .int .u64 ((rd_T30 l0 x9_1).f2), .int .i64 ((rd_T30 l0 x9_1).f3)] 30 (0, 0)) (by refine kb_ ?_; refine bp_ #[.int .i64 ((rd_T30 l0 x9_1).f0), .bool ((rd_T30 l0 x9_1).f1), .int .u64 ((rd_T30 l0 x9_1).f2), .int .i64 0] 3 ?_; refine bp_ #[.int .i64 ((rd_T30 l0 x9_1).f0), .bool ((rd_T30 l0 x9_1).f1), .int .u64 0, .int .i64 0] 2 ?_; refine bp_ #[.int .i64 ((rd_T30 l0 x9_1).f0), .bool false, .int .u64 0, .int .i64 0] 1 ?_; refine bp_ #[.int .i64 0, .bool false, .int .u64 0, .int .i64 0] 0 ?_; exact BK551.out) hb); have n3_ := bq_ HB hb; clear BK544; clear BK549; clear BK551; clear HB; have BK544 := n0_; have BK549 := n1_; have BK551 := n2_; have HB := n3_; clear n0_ n1_ n2_ n3_; (try clear hb); (try clear hb2); (try clear hk); (try clear hi)))
       go_roundg k1
       case measure => have := HK1.out; omega
       case rel => exact ⟨(wrap64 (x9_1 + 1)), (x550000_1), (x550001_1), (x550002_1), (x550003_1), (by first | rfl | (simp; done) | (simp [*]; done)), H', ⟨by have := HK1.out; omega⟩, ⟨kb_ BK544.out⟩, ⟨kb_ BK549.out⟩, ⟨bw_ HB.out⟩⟩
     ·rw [if_neg c10] at H
      exact absurd H (by simp)
    ·rw [if_neg c9] at H
     exact absurd H (by simp)
   ·rw [if_neg c8] at H
    have c8b0 : decide (x9_1 < (l0.length : Int)) = false := decide_eq_false c8
    clear c8
    simp only [Option.some.injEq, Prod.mk.injEq] at H
    obtain ⟨rfl, rfl, rfl, rfl⟩ := H
    have hnb31 := NB549_544.out
    have hnc31 := NB544_549.out
    obtain ⟨hcz32_0, hcz32_1, hcz32_2, hcz32_3, hfz32_0, hfz32_1, hfz32_2, hfz32_3⟩ := c4_ BK549
    obtain ⟨hcz33_0, hcz33_1, hcz33_2, hcz33_3, hfz33_0, hfz33_1, hfz33_2, hfz33_3⟩ := c4_ BK544
    go_wp2
    refine bodyPost_ret (results_cell_row rfl _ _ gb544 30 #[.int .i64 x550000_1, .bool x550001_1, .int .u64 x550002_1, .int .i64 x550003_1] (0, 0) _ rfl (by refine kb_ ?_; refine bp_ #[.int .i64 x550000_1, .bool x550001_1, .int .u64 x550002_1, .int .i64 0] 3 ?_; refine bp_ #[.int .i64 x550000_1, .bool x550001_1, .int .u64 0, .int .i64 0] 2 ?_; refine bp_ #[.int .i64 x550000_1, .bool false, .int .u64 0, .int .i64 0] 1 ?_; refine bp_ #[.int .i64 0, .bool false, .int .u64 0, .int .i64 0] 0 ?_; exact BK544.out) Tryd.underlying30 rfl (by kernel_rfl)) rfl ?_
    exact ⟨rf_, bw_ HB.out⟩

/-! ### num_Most: function 21 -/
set_option maxHeartbeats 8000000 in
set_option maxRecDepth 100000 in
theorem num_Most.calls (k : Nat) (A0 : Option Addr) (c0 : Nat) (l0 : List (S30)) (r1 : Int) (r2 : Bool) (r3 : Int) (r4 : Int) (w : World) (hr0 : Kd.C k30 w A0 l0.length l0) (hc0 : l0.length ≤ c0) (h : num_Most.f k l0 = some (r1, r2, r3, r4)) :
  Calls Tryd.prog 21 #[.slice A0 l0.length c0] w fun e w' => e = .returned (.agg #[.int .i64 r1, .bool r2, .int .u64 r3, .int .i64 r4]) ∧ Below w.heap.size w w' := by
 have hu30 := Tryd.underlying30
 have HR0 := Aside0.mk hr0
 have HC0 := Aside0.mk hc0
 clear hr0 hc0
 have HB := Aside0.mk (Below.refl w.heap.size w)
 have H : ((num_Infinite.f true).bind fun bt595 => (num_Most.l0 k l0 (l0.length : Int) 0 bt595.1 bt595.2.1 bt595.2.2.1 bt595.2.2.2)) = some (r1, r2, r3, r4) := h
 clear h
 replace H := Option.bind_eq_some_iff.mp H
 obtain ⟨⟨t595, t596, t597, t598⟩, A20, H⟩ := H
 (try dsimp only at H)
 have A2 := Aside0.mk A20
 clear A20
 have H' := Aside0.mk H
 clear H
 go_enter Tryd.func21, Tryd.ntmps21
 go_wp2_with (first | ((with_reducible refine gate_dst (N := 2) rfl ?_); refine bx_ 2 #[.int .i64 0, .bool false, .int .u64 0, .int .i64 0] 30 ?_; intro gb594 hg w3 hbox hb; have BK594 := Aside0.mk (hbox); have GW594 := ge_ hg HB; have GE594 := ge_ hg HB; replace HB := bq_ HB hb; clear hb hbox hg) | ((with_reducible refine gate_callee (f := 33) rfl ?_); refine gl_ (some 6) Tryd.func33 #[.bool true] ?_; (with_reducible refine (num_Infinite.calls true t595 t596 t597 t598 _ A2.out).mono ?_); rintro e w4 ⟨rfl, hb⟩; refine ⟨_, rfl, ?_⟩; replace BK594 := kq_ BK594 hb; replace HB := bq_ HB hb; (try clear hb); (try clear hb2); (try clear hk); (try clear hi)) | ((with_reducible refine gate_dst (N := 3) rfl ?_); refine bx_ 3 #[.int .i64 0, .bool false, .int .u64 0, .int .i64 0] 30 ?_; intro gb599 hg w5 hbox hb; have BK599 := Aside0.mk (hbox); have GW599 := ge_ hg HB; have GE599 := ge_ hg HB; have NB594_599 := nb_ hg BK594; have NB599_594 := nc_ hg BK594; replace BK594 := kq_ BK594 hb; replace HB := bq_ HB hb; clear hb hbox hg; have hnb6 := NB599_594.out; have hnc6 := NB594_599.out; obtain ⟨hcz7_0, hcz7_1, hcz7_2, hcz7_3, hfz7_0, hfz7_1, hfz7_2, hfz7_3⟩ := c4_ BK599))
 go_loopg [9] k (fun kq v9 w' => ∃ (x9_1 : Int) (x600000_1 : Int) (x600001_1 : Bool) (x600002_1 : Int) (x600003_1 : Int), v9 = .int .i64 x9_1 ∧ Aside0 (num_Most.l0 kq l0 (l0.length : Int) x9_1 x600000_1 x600001_1 x600002_1 x600003_1 = some (r1, r2, r3, r4)) ∧ Aside0 (kq ≤ k) ∧ Aside0 (w'.heap[gb594]? = some (.cells #[.int .i64 0, .bool false, .int .u64 0, .int .i64 0] 30 (0, 0))) ∧ Aside0 (w'.heap[gb599]? = some (.cells #[.int .i64 x600000_1, .bool x600001_1, .int .u64 x600002_1, .int .i64 x600003_1] 30 (0, 0))) ∧ Aside0 (Below w.heap.size w w'))
 case atStart => exact ⟨(0), (t595), (t596), (t597), (t598), (by first | rfl | (simp; done) | (simp [*]; done)), H', ⟨Nat.le_refl _⟩, ⟨by refine kb_ ?_; refine bf_ NB594_599 ?_; refine bf_ NB594_599 ?_; refine bf_ NB594_599 ?_; refine bf_ NB594_599 ?_; exact BK594.out⟩, ⟨by refine kb_ ?_; refine bp_ #[.int .i64 t595, .bool t596, .int .u64 t597, .int .i64 0] 3 ?_; refine bp_ #[.int .i64 t595, .bool t596, .int .u64 0, .int .i64 0] 2 ?_; refine bp_ #[.int .i64 t595, .bool false, .int .u64 0, .int .i64 0] 1 ?_; refine bp_ #[.int .i64 0, .bool false, .int .u64 0, .int .i64 0] 0 ?_; exact BK599.out⟩, ⟨bw_ HB.out⟩⟩
 case round =>
  clear H'
  try clear c2
  try clear p2
  try clear c3
  try clear c6
  try clear hcz7_0 hcz7_1 hcz7_2 hcz7_3
  try clear hfz7_0 hfz7_1 hfz7_2 hfz7_3
  obtain ⟨x9_1, x600000_1, x600001_1, x600002_1, x600003_1, rfl, HA, HK1, BK594, BK599, HB⟩ := hrel
  cases gk with
  | zero => exact absurd HA.out (by simp [num_Most.l0])
  | succ k1 =>
   have H := HA.out
   clear HA
   simp only [num_Most.l0] at H
   by_cases c8 : x9_1 < (l0.length : Int)
   ·rw [if_pos c8] at H
    have c8b0 : decide (x9_1 < (l0.length : Int)) = true := decide_eq_true c8
    clear c8
    by_cases c9 : 0 ≤ x9_1
    ·rw [if_pos c9] at H
     have c9b0 : decide (0 ≤ x9_1) = true := decide_eq_true c9
     clear c9
     by_cases c10 : x9_1 < (l0.length : Int)
     ·rw [if_pos c10] at H
      have c10b0 : decide (x9_1 < (l0.length : Int)) = true := decide_eq_true c10
      clear c10
      replace H := Option.bind_eq_some_iff.mp H
      obtain ⟨t602, A110, H⟩ := H
      (try dsimp only at H)
      have A11 := Aside0.mk A110
      clear A110
      by_cases c12 : t602 > 0
      ·rw [if_pos c12] at H
       have c12b0 : decide (0 < t602) = true := decide_eq_true c12
       clear c12
       replace H := Option.bind_eq_some_iff.mp H
       obtain ⟨⟨t603, t604, t605, t606⟩, A130, H⟩ := H
       (try dsimp only at H)
       have A13 := Aside0.mk A130
       clear A130
       have H' := Aside0.mk H
       clear H
       have p600 : 0 ≤ (x9_1 : Int) := of_decide_eq_true (by first | (with_reducible assumption) | assumption)
       have q600 : x9_1 < (l0.length : Int) := of_decide_eq_true (by first | (with_reducible assumption) | assumption)
       obtain ⟨ad600, e600, hx600_0, hx600_1, hx600_2, hx600_3⟩ := at_T30 HR0.out x9_1 p600 q600
       cases e600
       replace hx600_0 := (HB.out.cell (World.block_lt_of_cell? w _ hx600_0)).trans hx600_0
       replace hx600_1 := (HB.out.cell (World.block_lt_of_cell? w _ hx600_1)).trans hx600_1
       replace hx600_2 := (HB.out.cell (World.block_lt_of_cell? w _ hx600_2)).trans hx600_2
       replace hx600_3 := (HB.out.cell (World.block_lt_of_cell? w _ hx600_3)).trans hx600_3
       replace p600 := eq_true p600
       replace q600 := eq_true q600
       go_wp2_with (first | ((with_reducible refine gate_dst (N := 5) rfl ?_); refine bx_ 5 #[.int .i64 0, .bool false, .int .u64 0, .int .i64 0] 30 ?_; intro gb601 hg w14 hbox hb; have BK601 := Aside0.mk (hbox); have GW601 := ge_ hg HB; have GE601 := ge_ hg HB; have NB594_601 := nb_ hg BK594; have NB601_594 := nc_ hg BK594; have NB599_601 := nb_ hg BK599; have NB601_599 := nc_ hg BK599; replace BK594 := kq_ BK594 hb; replace BK599 := kq_ BK599 hb; replace HB := bq_ HB hb; clear hb hbox hg; have hnb15 := NB601_594.out; have hnc15 := NB594_601.out; have hnb16 := NB601_599.out; have hnc16 := NB599_601.out; obtain ⟨hcz17_0, hcz17_1, hcz17_2, hcz17_3, hfz17_0, hfz17_1, hfz17_2, hfz17_3⟩ := c4_ BK601; have hnb18 := NB599_594.out; have hnc18 := NB594_599.out; obtain ⟨hcz19_0, hcz19_1, hcz19_2, hcz19_3, hfz19_0, hfz19_1, hfz19_2, hfz19_3⟩ := c4_ BK599) | ((with_reducible refine gate_callee (f := 17) rfl ?_); refine gl_ (some 15) Tryd.func17 #[.agg #[.int .i64 ((rd_T30 l0 x9_1).f0), .bool ((rd_T30 l0 x9_1).f1), .int .u64 ((rd_T30 l0 x9_1).f2), .int .i64 ((rd_T30 l0 x9_1).f3)], .agg #[.int .i64 x600000_1, .bool x600001_1, .int .u64 x600002_1, .int .i64 x600003_1]] ?_; (with_reducible refine (num_Cmp.calls ((rd_T30 l0 x9_1).f0) ((rd_T30 l0 x9_1).f1) ((rd_T30 l0 x9_1).f2) ((rd_T30 l0 x9_1).f3) x600000_1 x600001_1 x600002_1 x600003_1 t602 _ A11.out).mono ?_); rintro e w20 ⟨rfl, hb⟩; refine ⟨_, rfl, ?_⟩; have n0_ := Aside0.mk (blk_below (g := gb594) (o := .cells #[.int .i64 0, .bool false, .int .u64 0, .int .i64 0] 30 (0, 0)) (by refine kb_ ?_; refine bf_ NB594_601 ?_; refine bf_ NB594_601 ?_; refine bf_ NB594_601 ?_; refine bf_ NB594_601 ?_; exact BK594.out) hb); have n1_ := Aside0.mk (blk_below (g := gb599) (o := .cells #[.int .i64 x600000_1, .bool x600001_1, .int .u64 x600002_1, .int .i64 x600003_1] 30 (0, 0)) (by refine kb_ ?_; refine bf_ NB599_601 ?_; refine bf_ NB599_601 ?_; refine bf_ NB599_601 ?_; refine bf_ NB599_601 ?_; exact BK599.out) hb); have n2_ := Aside0.mk (blk_below (g := gb601) (o := .cells #[.int .i64 ((rd_T30 l0 x9_1).f0), .bool ((rd_T30 l0 x9_1).f1), .int .u64 ((rd_T30 l0 x9_1).f2), .int .i64 ((rd_T30 l0 x9_1).f3)] 30 (0, 0)) (by refine kb_ ?_; refine bp_ #[.int .i64 ((rd_T30 l0 x9_1).f0), .bool ((rd_T30 l0 x9_1).f1), .int .u64 ((rd_T30 l0 x9_1).f2), .int .i64 0] 3 ?_; refine bp_ #[.int .i64 ((rd_T30 l0 x9_1).f0), .bool ((rd_T30 l0 x9_1).f1), .int .u64 0, .int .i64 0] 2 ?_; refine bp_ #[.int .i64 ((rd_T30 l0 x9_1).f0), .bool false, .int .u64 0, .int .i64 0] 1 ?_; refine bp_ #[.int .i64 0, .bool false, .int .u64 0, .int .i64 0] 0 ?_; exact BK601.out) hb); have n3_ := bq_ HB hb; clear BK594; clear BK599; clear BK601; clear HB; have BK594 := n0_; have BK599 := n1_; have BK601 := n2_; have HB := n3_; clear n0_ n1_ n2_ n3_; (try clear hb); (try clear hb2); (try clear hk); (try clear hi); obtain ⟨hcz21_0, hcz21_1, hcz21_2, hcz21_3, hfz21_0, hfz21_1, hfz21_2, hfz21_3⟩ := c4_ BK601) | ((with_reducible refine gate_callee (f := 52) rfl ?_); refine gl_ (some 18) Tryd.func52 #[.agg #[.int .i64 ((rd_T30 l0 x9_1).f0), .bool ((rd_T30 l0 x9_1).f1), .int .u64 ((rd_T30 l0 x9_1).f2), .int .i64 ((rd_T30 l0 x9_1).f3)]] ?_; (with_reducible refine (num_fair.calls ((rd_T30 l0 x9_1).f0) ((rd_T30 l0 x9_1).f1) ((rd_T30 l0 x9_1).f2) ((rd_T30 l0 x9_1).f3) t603 t604 t605 t606 _ A13.out).mono ?_); rintro e w22 ⟨rfl, hb⟩; refine ⟨_, rfl, ?_⟩; replace BK594 := kq_ BK594 hb; replace BK599 := kq_ BK599 hb; replace BK601 := Aside0.mk (blk_below (g := gb601) (o := .cells #[.int .i64 ((rd_T30 l0 x9_1).f0), .bool ((rd_T30 l0 x9_1).f1), .int .u64 ((rd_T30 l0 x9_1).f2), .int .i64 ((rd_T30 l0 x9_1).f3)] 30 (0, 0)) (kb_ BK601.out) hb); replace HB := bq_ HB hb; (try clear hb); (try clear hb2); (try clear hk); (try clear hi); obtain ⟨hcz23_0, hcz23_1, hcz23_2, hcz23_3, hfz23_0, hfz23_1, hfz23_2, hfz23_3⟩ := c4_ BK599))
       go_roundg k1
       case measure => have := HK1.out; omega
       case rel => exact ⟨(wrap64 (x9_1 + 1)), (t603), (t604), (t605), (t606), (by first | rfl | (simp; done) | (simp [*]; done)), H', ⟨by have := HK1.out; omega⟩, ⟨by refine kb_ ?_; refine bf_ NB594_599 ?_; refine bf_ NB594_599 ?_; refine bf_ NB594_599 ?_; refine bf_ NB594_599 ?_; exact BK594.out⟩, ⟨by refine kb_ ?_; refine bp_ #[.int .i64 t603, .bool t604, .int .u64 t605, .int .i64 x600003_1] 3 ?_; refine bp_ #[.int .i64 t603, .bool t604, .int .u64 x600002_1, .int .i64 x600003_1] 2 ?_; refine bp_ #[.int .i64 t603, .bool x600001_1, .int .u64 x600002_1, .int .i64 x600003_1] 1 ?_; refine bp_ #[.int .i64 x600000_1, .bool x600001_1, .int .u64 x600002_1, .int .i64 x600003_1] 0 ?_; exact BK599.out⟩, ⟨bw_ HB.out⟩⟩
      ·rw [if_neg c12] at H
       have c12b0 : decide (0 < t602) = false := decide_eq_false c12
       clear c12
       have H' := Aside0.mk H
       clear H
       have p600 : 0 ≤ (x9_1 : Int) := of_decide_eq_true (by first | (with_reducible assumption) | assumption)
       have q600 : x9_1 < (l0.length : Int) := of_decide_eq_true (by first | (with_reducible assumption) | assumption)
       obtain ⟨ad600, e600, hx600_0, hx600_1, hx600_2, hx600_3⟩ := at_T30 HR0.out x9_1 p600 q600
       cases e600
       replace hx600_0 := (HB.out.cell (World.block_lt_of_cell? w _ hx600_0)).trans hx600_0
       replace hx600_1 := (HB.out.cell (World.block_lt_of_cell? w _ hx600_1)).trans hx600_1
       replace hx600_2 := (HB.out.cell (World.block_lt_of_cell? w _ hx600_2)).trans hx600_2
       replace hx600_3 := (HB.out.cell (World.block_lt_of_cell? w _ hx600_3)).trans hx600_3
       replace p600 := eq_true p600
       replace q600 := eq_true q600
       go_wp2_with (first | ((with_reducible refine gate_dst (N := 5) rfl ?_); refine bx_ 5 #[.int .i64 0, .bool false, .int .u64 0, .int .i64 0] 30 ?_; intro gb601 hg w24 hbox hb; have BK601 := Aside0.mk (hbox); have GW601 := ge_ hg HB; have GE601 := ge_ hg HB; have NB594_601 := nb_ hg BK594; have NB601_594 := nc_ hg BK594; have NB599_601 := nb_ hg BK599; have NB601_599 := nc_ hg BK599; replace BK594 := kq_ BK594 hb; replace BK599 := kq_ BK599 hb; replace HB := bq_ HB hb; clear hb hbox hg; have hnb25 := NB601_594.out; have hnc25 := NB594_601.out; have hnb26 := NB601_599.out; have hnc26 := NB599_601.out; obtain ⟨hcz27_0, hcz27_1, hcz27_2, hcz27_3, hfz27_0, hfz27_1, hfz27_2, hfz27_3⟩ := c4_ BK601; have hnb28 := NB599_594.out; have hnc28 := NB594_599.out; obtain ⟨hcz29_0, hcz29_1, hcz29_2, hcz29_3, hfz29_0, hfz29_1, hfz29_2, hfz29_3⟩ := c4_ BK599) | ((with_reducible refine gate_callee (f := 17) rfl ?_); refine gl_ (some 15) Tryd.func17 #[.agg #[.int .i64 ((rd_T30 l0 x9_1).f0), .bool ((rd_T30 l0 x9_1).f1), .int .u64 ((rd_T30 l0 x9_1).f2), .int .i64 ((rd_T30 l0 x9_1).f3)], .agg #[.int .i64 x600000_1, .bool x600001_1, .int .u64 x600002_1, .int .i64 x600003_1]] ?_; (with_reducible refine (num_Cmp.calls ((rd_T30 l0 x9_1).f0) ((rd_T30 l0 x9_1).f1) ((rd_T30 l0 x9_1).f2) ((rd_T30 l0 x9_1).f3) x600000_1 x600001_1 x600002_1 x600003_1 t602 _ A11.out).mono ?_); rintro e w30 ⟨rfl, hb⟩; refine ⟨_, rfl, ?_⟩; have n0_ := Aside0.mk (blk_below (g := gb594) (o := .cells #[.int .i64 0, .bool false, .int .u64 0, .int .i64 0] 30 (0, 0)) (by refine kb_ ?_; refine bf_ NB594_601 ?_; refine bf_ NB594_601 ?_; refine bf_ NB594_601 ?_; refine bf_ NB594_601 ?_; exact BK594.out) hb); have n1_ := Aside0.mk (blk_below (g := gb599) (o := .cells #[.int .i64 x600000_1, .bool x600001_1, .int .u64 x600002_1, .int .i64 x600003_1] 30 (0, 0)) (by refine kb_ ?_; refine bf_ NB599_601 ?_; refine bf_ NB599_601 ?_; refine bf_ NB599_601 ?_; refine bf_ NB599_601 ?_; exact BK599.out) hb); have n2_ := Aside0.mk (blk_below (g := gb601) (o := .cells #[.int .i64 ((rd_T30 l0 x9_1).f0), .bool ((rd_T30 l0 x9_1).f1), .int .u64 ((rd_T30 l0 x9_1).f2), .int .i64 ((rd_T30 l0 x9_1).f3)] 30 (0, 0)) (by refine kb_ ?_; refine bp_ #[.int .i64 ((rd_T30 l0 x9_1).f0), .bool ((rd_T30 l0 x9_1).f1), .int .u64 ((rd_T30 l0 x9_1).f2), .int .i64 0] 3 ?_; refine bp_ #[.int .i64 ((rd_T30 l0 x9_1).f0), .bool ((rd_T30 l0 x9_1).f1), .int .u64 0, .int .i64 0] 2 ?_; refine bp_ #[.int .i64 ((rd_T30 l0 x9_1).f0), .bool false, .int .u64 0, .int .i64 0] 1 ?_; refine bp_ #[.int .i64 0, .bool false, .int .u64 0, .int .i64 0] 0 ?_; exact BK601.out) hb); have n3_ := bq_ HB hb; clear BK594; clear BK599; clear BK601; clear HB; have BK594 := n0_; have BK599 := n1_; have BK601 := n2_; have HB := n3_; clear n0_ n1_ n2_ n3_; (try clear hb); (try clear hb2); (try clear hk); (try clear hi)))
       go_roundg k1
       case measure => have := HK1.out; omega
       case rel => exact ⟨(wrap64 (x9_1 + 1)), (x600000_1), (x600001_1), (x600002_1), (x600003_1), (by first | rfl | (simp; done) | (simp [*]; done)), H', ⟨by have := HK1.out; omega⟩, ⟨kb_ BK594.out⟩, ⟨kb_ BK599.out⟩, ⟨bw_ HB.out⟩⟩
     ·rw [if_neg c10] at H
      exact absurd H (by simp)
    ·rw [if_neg c9] at H
     exact absurd H (by simp)
   ·rw [if_neg c8] at H
    have c8b0 : decide (x9_1 < (l0.length : Int)) = false := decide_eq_false c8
    clear c8
    simp only [Option.some.injEq, Prod.mk.injEq] at H
    obtain ⟨rfl, rfl, rfl, rfl⟩ := H
    have hnb31 := NB599_594.out
    have hnc31 := NB594_599.out
    obtain ⟨hcz32_0, hcz32_1, hcz32_2, hcz32_3, hfz32_0, hfz32_1, hfz32_2, hfz32_3⟩ := c4_ BK599
    obtain ⟨hcz33_0, hcz33_1, hcz33_2, hcz33_3, hfz33_0, hfz33_1, hfz33_2, hfz33_3⟩ := c4_ BK594
    go_wp2
    refine bodyPost_ret (results_cell_row rfl _ _ gb594 30 #[.int .i64 x600000_1, .bool x600001_1, .int .u64 x600002_1, .int .i64 x600003_1] (0, 0) _ rfl (by refine kb_ ?_; refine bp_ #[.int .i64 x600000_1, .bool x600001_1, .int .u64 x600002_1, .int .i64 0] 3 ?_; refine bp_ #[.int .i64 x600000_1, .bool x600001_1, .int .u64 0, .int .i64 0] 2 ?_; refine bp_ #[.int .i64 x600000_1, .bool false, .int .u64 0, .int .i64 0] 1 ?_; refine bp_ #[.int .i64 0, .bool false, .int .u64 0, .int .i64 0] 0 ?_; exact BK594.out) Tryd.underlying30 rfl (by kernel_rfl)) rfl ?_
    exact ⟨rf_, bw_ HB.out⟩

end Go.Proofs.YtkemnoejpbknhaaDoor.PA
