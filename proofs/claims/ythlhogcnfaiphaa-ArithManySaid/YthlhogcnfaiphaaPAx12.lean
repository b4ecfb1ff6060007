-- Laid by this work's own program; Lean checks it.
import Derived.Test.YthlhogcnfaiphaaPAx0
import Derived.Test.YthlhogcnfaiphaaPAx2
import Derived.Test.YthlhogcnfaiphaaPAx8
import Derived.Test.YthlhogcnfaiphaaPAx9
import Derived.Test.YthlhogcnfaiphaaPAx10
import Derived.Test.YthlhogcnfaiphaaPAx11
namespace Go.Proofs.Ythlhogcnfaiphaa.PA
open Go.RowKit Go.Proofs.YthlhogcnfaiphaaW.PrintWords Go.Proofs.YthlhogcnfaiphaaW.PrintLast Go.Proofs.YthlhogcnfaiphaaW.PrintMore
attribute [local go_sem] max2_int min2_int max_two min_two max_three min_three max_four min_four   -- for this text's walks alone
set_option linter.unusedVariables false
set_option linter.unusedSimpArgs false

attribute [local go_sem ↓ high] isSome_set_
/-! ### pelorusref05_Round: function 40 -/
theorem pelorusref05_Round.tab7 : rtab .any (opsOf Try.f40 7) = pelorusref05_Round.T7 := by kernel_rfl
theorem pelorusref05_Round.bits7 : waitsOk pelorusref05_Round.T7.2 pelorusref05_Round.B7 = true := by kernel_rfl
def pelorusref05_Round.T15 : Bool × List (List Nat × List Nat) := (true, [([], []), ([0], [0]), ([1], [1]), ([], []), ([3], [3]), ([], []), ([], []), ([2, 4, 5, 6, 4], [2, 4, 5, 6]), ([7, 7, 0, 1, 2, 3, 4, 5, 6, 7], [7])])
def pelorusref05_Round.B15 : List Nat := [0, 1, 3, 0, 8, 0, 0, 127, 255]
theorem pelorusref05_Round.tab15 : rtab .any (opsOf Try.f40 15) = pelorusref05_Round.T15 := by kernel_rfl
theorem pelorusref05_Round.bits15 : waitsOk pelorusref05_Round.T15.2 pelorusref05_Round.B15 = true := by kernel_rfl
set_option maxHeartbeats 8000000 in
set_option maxRecDepth 100000 in
theorem pelorusref05_Round.calls (k : Nat) (a0_0 : Bool) (A0_1 : Option Addr) (c0_1 : Nat) (l0_1 : List Int) (a0_2 : Int) (a1 : Bool) (r1 : Int) (r2 : Bool) (r3 : Int) (r4 : Int) (w : World) (hr0_1 : Kd.C (Kd.int .u32) w A0_1 l0_1.length l0_1) (hc0_1 : l0_1.length ≤ c0_1) (h : pelorusref05_Round.f k a0_0 l0_1 a0_2 a1 = some (r1, r2, r3, r4)) :
  Calls Try.prog 40 #[.agg #[.bool a0_0, .slice A0_1 l0_1.length c0_1, .int .i64 a0_2], .bool a1] w fun e w' => e = .returned (.agg #[.int .i64 r1, .bool r2, .int .u64 r3, .int .i64 r4]) ∧ Below w.heap.size w w' := by
 have hu50 := Try.underlying50
 have hu24 := Try.underlying24
 have hu48 := Try.underlying48
 have HR0_1 := Aside0.mk hr0_1
 have HC0_1 := Aside0.mk hc0_1
 clear hr0_1 hc0_1
 have HB := Aside0.mk (Below.refl w.heap.size w)
 have H : ((pelorusref03_Make.f k a0_0 l0_1 a0_2).bind fun bt551 => (if (bt551.2.1.length : Int) = 0 then (some (0, false, 0, 0)) else ((pelorusref01_Len.f k bt551.2.1).bind fun t557 => (if t557 ≤ 64 then ((pelorusref01_Shl.f k bt551.2.1 (wrap64 (64 - t557))).bind fun t558 => ((pelorusref05_word.f k t558).bind fun t561 => ((pelorusref05_finite.f bt551.1 t561 (wrap64 ((wrap64 (bt551.2.2 + t557)) - 64)) (a1 != bt551.1)).bind fun bt562 => (some (bt562.1, bt562.2.1, bt562.2.2.1, bt562.2.2.2))))) else ((pelorusref01_Shr.f k bt551.2.1 (wrap64 (t557 - 64))).bind fun t566 => (if (a1 != bt551.1) = true then ((pelorusref01_Add.f k t566 (([1] : List Int))).bind fun t572 => ((pelorusref01_Len.f k t572).bind fun t575 => (if t575 > 64 then ((pelorusref01_Shr.f k t572 1).bind fun t576 => ((pelorusref05_word.f k t576).bind fun t579 => ((pelorusref05_finite.f bt551.1 t579 (wrap64 ((wrap64 ((wrap64 (bt551.2.2 + t557)) - 64)) + 1)) (a1 != bt551.1)).bind fun bt580 => (some (bt580.1, bt580.2.1, bt580.2.2.1, bt580.2.2.2))))) else ((pelorusref05_word.f k t572).bind fun t584 => ((pelorusref05_finite.f bt551.1 t584 (wrap64 ((wrap64 (bt551.2.2 + t557)) - 64)) (a1 != bt551.1)).bind fun bt585 => (some (bt585.1, bt585.2.1, bt585.2.2.1, bt585.2.2.2))))))) else ((pelorusref05_word.f k t566).bind fun t589 => ((pelorusref05_finite.f bt551.1 t589 (wrap64 ((wrap64 (bt551.2.2 + t557)) - 64)) (a1 != bt551.1)).bind fun bt590 => (some (bt590.1, bt590.2.1, bt590.2.2.1, bt590.2.2.2)))))))))) = some (r1, r2, r3, r4) := h
 clear h
 replace H := Option.bind_eq_some_iff.mp H
 obtain ⟨⟨t551, t552, t555⟩, A30, H⟩ := H
 (try dsimp only at H)
 have A3 := Aside0.mk A30
 clear A30
 by_cases c4 : (t552.length : Int) = 0
 ·rw [if_pos c4] at H
  have c4b0 : ((t552.length : Int) == 0) = true := beq_iff_eq.mpr c4
  have c4b1 : ((t552.length : Int) != 0) = false := bne_eq_false_iff_eq.mpr c4
  clear c4
  simp only [Option.some.injEq, Prod.mk.injEq] at H
  obtain ⟨rfl, rfl, rfl, rfl⟩ := H
  go_enter Try.func40, Try.ntmps40
  go_wp2_with (first | ((with_reducible refine gate_dst (N := 2) rfl ?_); refine bx_ 2 #[.bool a0_0, .slice A0_1 l0_1.length c0_1, .int .i64 a0_2] 50 ?_; intro gb549 hg w5 hbox hb; have n0_ := bq_ HB hb; have n1_ := Aside0.mk (hbox); have n2_ := ge_ hg HB; have n3_ := ge_ hg HB; clear HB; have HB := n0_; have BK549 := n1_; have GW549 := n2_; have GE549 := n3_; clear n0_ n1_ n2_ n3_; clear hb hbox hg) | ((with_reducible refine gate_dst (N := 4) rfl ?_); refine bx_ 4 #[.int .i64 0, .bool false, .int .u64 0, .int .i64 0] 24 ?_; intro gb550 hg w6 hbox hb; have n0_ := kq_ BK549 hb; have n1_ := bq_ HB hb; have n2_ := Aside0.mk (hbox); have n3_ := ge_ hg HB; have n4_ := ge_ hg HB; have n5_ := nb_ hg BK549; have n6_ := nc_ hg BK549; clear BK549; clear HB; have BK549 := n0_; have HB := n1_; have BK550 := n2_; have GW550 := n3_; have GE550 := n4_; have NB549_550 := n5_; have NB550_549 := n6_; clear n0_ n1_ n2_ n3_ n4_ n5_ n6_; clear hb hbox hg; have hnb7 := NB549_550.out; have hnc7 := NB550_549.out; obtain ⟨hcz8_0, hcz8_1, hcz8_2, hfz8_0, hfz8_1, hfz8_2⟩ := c3_ BK549) | ((with_reducible refine gate_callee (f := 54) rfl ?_); refine gl_ (some 14) Try.func54 #[.agg #[.bool a0_0, .slice A0_1 l0_1.length c0_1], .int .i64 a0_2] ?_; (with_reducible refine (pelorusref03_Make.calls k a0_0 _ _ l0_1 a0_2 t551 t552 t555 _ ?side1 ?side2 A3.out).mono ?_); (case side1 => repeat (first | exact (Kd.C_below HR0_1.out HB.out) | (with_reducible refine Kd.C_alloc ?_ _) | (with_reducible refine Kd.C_drewN ?_ _) | (with_reducible refine Kd.C_drew ?_))); (case side2 => exact HC0_1.out); rintro e w9 ⟨v553, rfl, ho0, hb⟩; refine ⟨_, rfl, ?_⟩; have n0_ := Aside0.mk (Kd.R_lower ho0 (below_size (bw_ HB.out))); have n1_ := kq_ BK549 hb; have n2_ := kq_ BK550 hb; have n3_ := bq_ HB hb; clear BK549; clear BK550; clear HB; have HO554 := n0_; have BK549 := n1_; have BK550 := n2_; have HB := n3_; clear n0_ n1_ n2_ n3_; (try clear hb); (try clear hb2); (try clear hk); (try clear hi); (try clear ho0)) | ((with_reducible refine gate_dst (N := 5) rfl ?_); refine bx_ 5 #[.bool false, .slice none 0 0, .int .i64 0] 50 ?_; intro gb556 hg w10 hbox hb; have n0_ := Aside0.mk (Kd.R_below (by (with_reducible repeat (first | apply Kd.R_alloc | apply Kd.R_drewN | apply Kd.R_drew)); exact HO554.out) hb); have n1_ := kq_ BK549 hb; have n2_ := kq_ BK550 hb; have n3_ := bq_ HB hb; have n4_ := Aside0.mk (hbox); have n5_ := ge_ hg HB; have n6_ := ge_ hg HB; have n7_ := nb_ hg BK549; have n8_ := nc_ hg BK549; have n9_ := nb_ hg BK550; have n10_ := nc_ hg BK550; clear HO554; clear BK549; clear BK550; clear HB; have HO554 := n0_; have BK549 := n1_; have BK550 := n2_; have HB := n3_; have BK556 := n4_; have GW556 := n5_; have GE556 := n6_; have NB549_556 := n7_; have NB556_549 := n8_; have NB550_556 := n9_; have NB556_550 := n10_; clear n0_ n1_ n2_ n3_ n4_ n5_ n6_ n7_ n8_ n9_ n10_; clear hb hbox hg; have hnb11 := NB556_549.out; have hnc11 := NB549_556.out; have hnb12 := NB556_550.out; have hnc12 := NB550_556.out; obtain ⟨hcz13_0, hcz13_1, hcz13_2, hfz13_0, hfz13_1, hfz13_2⟩ := c3_ BK556; obtain ⟨Ao14, co14, eo14⟩ := Kd.R_slice HO554.out; subst eo14; obtain ⟨hcz15_0, hcz15_1, hcz15_2, hcz15_3, hfz15_0, hfz15_1, hfz15_2, hfz15_3⟩ := c4_ BK550))
  refine bodyPost_ret (results_cell_row rfl _ _ gb550 24 #[.int .i64 0, .bool false, .int .u64 0, .int .i64 0] (0, 0) _ rfl (by refine kb_ ?_; refine bp_ #[.int .i64 0, .bool false, .int .u64 0, .int .i64 0] 3 ?_; refine bp_ #[.int .i64 0, .bool false, .int .u64 0, .int .i64 0] 2 ?_; refine bp_ #[.int .i64 0, .bool false, .int .u64 0, .int .i64 0] 1 ?_; refine bp_ #[.int .i64 0, .bool false, .int .u64 0, .int .i64 0] 0 ?_; refine bf_ NB550_556 ?_; refine bf_ NB550_556 ?_; refine bf_ NB550_556 ?_; exact BK550.out) Try.underlying24 rfl (by kernel_rfl)) rfl ?_
  exact ⟨rf_, bw_ HB.out⟩
 ·rw [if_neg c4] at H
  have c4b0 : ((t552.length : Int) == 0) = false := beq_eq_false_iff_ne.mpr c4
  have c4b1 : ((t552.length : Int) != 0) = true := bne_iff_ne.mpr c4
  have c4b2 : ¬ (t552 = []) := fun h_ => c4 (by rw [h_]; rfl)
  replace H := Option.bind_eq_some_iff.mp H
  obtain ⟨t557, A160, H⟩ := H
  (try dsimp only at H)
  have A16 := Aside0.mk A160
  clear A160
  by_cases c17 : t557 ≤ 64
  ·rw [if_pos c17] at H
   have c17b0 : decide (t557 ≤ 64) = true := decide_eq_true c17
   clear c17
   replace H := Option.bind_eq_some_iff.mp H
   obtain ⟨t558, A180, H⟩ := H
   (try dsimp only at H)
   have A18 := Aside0.mk A180
   clear A180
   replace H := Option.bind_eq_some_iff.mp H
   obtain ⟨t561, A190, H⟩ := H
   (try dsimp only at H)
   have A19 := Aside0.mk A190
   clear A190
   replace H := Option.bind_eq_some_iff.mp H
   obtain ⟨⟨t562, t563, t564, t565⟩, A200, H⟩ := H
   (try dsimp only at H)
   have A20 := Aside0.mk A200
   clear A200
   simp only [Option.some.injEq, Prod.mk.injEq] at H
   obtain ⟨rfl, rfl, rfl, rfl⟩ := H
   go_enter Try.func40, Try.ntmps40
   try go_wp2_with (first | ((with_reducible refine gate_dst (N := 2) rfl ?_); refine bx_ 2 #[.bool a0_0, .slice A0_1 l0_1.length c0_1, .int .i64 a0_2] 50 ?_; intro gb549 hg w21 hbox hb; have n0_ := bq_ HB hb; have n1_ := Aside0.mk (hbox); have n2_ := ge_ hg HB; have n3_ := ge_ hg HB; clear HB; have HB := n0_; have BK549 := n1_; have GW549 := n2_; have GE549 := n3_; clear n0_ n1_ n2_ n3_; clear hb hbox hg) | ((with_reducible refine gate_dst (N := 4) rfl ?_); refine bx_ 4 #[.int .i64 0, .bool false, .int .u64 0, .int .i64 0] 24 ?_; intro gb550 hg w22 hbox hb; have n0_ := kq_ BK549 hb; have n1_ := bq_ HB hb; have n2_ := Aside0.mk (hbox); have n3_ := ge_ hg HB; have n4_ := ge_ hg HB; have n5_ := nb_ hg BK549; have n6_ := nc_ hg BK549; clear BK549; clear HB; have BK549 := n0_; have HB := n1_; have BK550 := n2_; have GW550 := n3_; have GE550 := n4_; have NB549_550 := n5_; have NB550_549 := n6_; clear n0_ n1_ n2_ n3_ n4_ n5_ n6_; clear hb hbox hg; have hnb23 := NB549_550.out; have hnc23 := NB550_549.out; obtain ⟨hcz24_0, hcz24_1, hcz24_2, hfz24_0, hfz24_1, hfz24_2⟩ := c3_ BK549) | ((with_reducible refine gate_callee (f := 54) rfl ?_); refine gl_ (some 14) Try.func54 #[.agg #[.bool a0_0, .slice A0_1 l0_1.length c0_1], .int .i64 a0_2] ?_; (with_reducible refine (pelorusref03_Make.calls k a0_0 _ _ l0_1 a0_2 t551 t552 t555 _ ?side1 ?side2 A3.out).mono ?_); (case side1 => repeat (first | exact (Kd.C_below HR0_1.out HB.out) | (with_reducible refine Kd.C_alloc ?_ _) | (with_reducible refine Kd.C_drewN ?_ _) | (with_reducible refine Kd.C_drew ?_))); (case side2 => exact HC0_1.out); rintro e w25 ⟨v553, rfl, ho0, hb⟩; refine ⟨_, rfl, ?_⟩; have n0_ := Aside0.mk (Kd.R_lower ho0 (below_size (bw_ HB.out))); have n1_ := kq_ BK549 hb; have n2_ := kq_ BK550 hb; have n3_ := bq_ HB hb; clear BK549; clear BK550; clear HB; have HO554 := n0_; have BK549 := n1_; have BK550 := n2_; have HB := n3_; clear n0_ n1_ n2_ n3_; (try clear hb); (try clear hb2); (try clear hk); (try clear hi); (try clear ho0)) | ((with_reducible refine gate_dst (N := 5) rfl ?_); refine bx_ 5 #[.bool false, .slice none 0 0, .int .i64 0] 50 ?_; intro gb556 hg w26 hbox hb; have n0_ := Aside0.mk (Kd.R_below (by (with_reducible repeat (first | apply Kd.R_alloc | apply Kd.R_drewN | apply Kd.R_drew)); exact HO554.out) hb); have n1_ := kq_ BK549 hb; have n2_ := kq_ BK550 hb; have n3_ := bq_ HB hb; have n4_ := Aside0.mk (hbox); have n5_ := ge_ hg HB; have n6_ := ge_ hg HB; have n7_ := nb_ hg BK549; have n8_ := nc_ hg BK549; have n9_ := nb_ hg BK550; have n10_ := nc_ hg BK550; clear HO554; clear BK549; clear BK550; clear HB; have HO554 := n0_; have BK549 := n1_; have BK550 := n2_; have HB := n3_; have BK556 := n4_; have GW556 := n5_; have GE556 := n6_; have NB549_556 := n7_; have NB556_549 := n8_; have NB550_556 := n9_; have NB556_550 := n10_; clear n0_ n1_ n2_ n3_ n4_ n5_ n6_ n7_ n8_ n9_ n10_; clear hb hbox hg; have hnb27 := NB556_549.out; have hnc27 := NB549_556.out; have hnb28 := NB556_550.out; have hnc28 := NB550_556.out; obtain ⟨hcz29_0, hcz29_1, hcz29_2, hfz29_0, hfz29_1, hfz29_2⟩ := c3_ BK556; obtain ⟨Ao30, co30, eo30⟩ := Kd.R_slice HO554.out; subst eo30) | ((with_reducible refine gate_callee (f := 57) rfl ?_); refine gl_ (some 29) Try.func57 #[.slice Ao30 t552.length co30] ?_; (with_reducible refine (pelorusref01_Len.calls k _ _ t552 t557 _ ?side1 ?side2 A16.out).mono ?_); (case side1 => refine (Kd.R_reads' (e := 68) (base := w.heap.size) (ok := fun k_ => True) (n := t552.length) (c := co30) ?_).2.2; exact (by (with_reducible repeat (first | apply Kd.R_alloc | apply Kd.R_drewN | apply Kd.R_drew)); exact (Kd.R_mono (Kd.R_far (p := ⟨gb556, 2, none⟩) (Kd.R_far (p := ⟨gb556, 1, none⟩) (Kd.R_far (p := ⟨gb556, 0, none⟩) (Kd.R_types HO554.out BK556.out (by decide)) (fun _ hk => hk.2) (.bool t551)) (fun _ hk => hk.2) (.slice Ao30 t552.length co30)) (fun _ hk => hk.2) (.int .i64 t555)) (fun _ h_ => h_.1)))); (case side2 => exact (Kd.R_reads' HO554.out).2.1); rintro e w31 ⟨rfl, hb⟩; refine ⟨_, rfl, ?_⟩; have n0_ := Aside0.mk (Kd.R_below (by (with_reducible repeat (first | apply Kd.R_alloc | apply Kd.R_drewN | apply Kd.R_drew)); exact (Kd.R_mono (Kd.R_far (p := ⟨gb556, 2, none⟩) (Kd.R_far (p := ⟨gb556, 1, none⟩) (Kd.R_far (p := ⟨gb556, 0, none⟩) (Kd.R_types HO554.out BK556.out (by decide)) (fun _ hk => hk.2) (.bool t551)) (fun _ hk => hk.2) (.slice Ao30 t552.length co30)) (fun _ hk => hk.2) (.int .i64 t555)) (fun _ h_ => h_.1))) hb); have n1_ := Aside0.mk (blk_below (g := gb549) (o := .cells #[.bool a0_0, .slice A0_1 l0_1.length c0_1, .int .i64 a0_2] 50 (0, 0)) (by refine kb_ ?_; refine bf_ NB549_556 ?_; refine bf_ NB549_556 ?_; refine bf_ NB549_556 ?_; exact BK549.out) hb); have n2_ := Aside0.mk (blk_below (g := gb550) (o := .cells #[.int .i64 0, .bool false, .int .u64 0, .int .i64 0] 24 (0, 0)) (by refine kb_ ?_; refine bf_ NB550_556 ?_; refine bf_ NB550_556 ?_; refine bf_ NB550_556 ?_; exact BK550.out) hb); have n3_ := Aside0.mk (blk_below (g := gb556) (o := .cells #[.bool t551, .slice Ao30 t552.length co30, .int .i64 t555] 50 (0, 0)) (by refine kb_ ?_; refine bp_ #[.bool t551, .slice Ao30 t552.length co30, .int .i64 0] 2 ?_; refine bp_ #[.bool t551, .slice none 0 0, .int .i64 0] 1 ?_; refine bp_ #[.bool false, .slice none 0 0, .int .i64 0] 0 ?_; exact BK556.out) hb); have n4_ := bq_ HB hb; clear HO554; clear BK549; clear BK550; clear BK556; clear HB; have HO554 := n0_; have BK549 := n1_; have BK550 := n2_; have BK556 := n3_; have HB := n4_; clear n0_ n1_ n2_ n3_ n4_; (try clear hb); (try clear hb2); (try clear hk); (try clear hi)))
   have n0_ := Aside0.mk (Kd.R_drew HO554.out)
   have n1_ := Aside0.mk (blk_drew BK549.out)
   have n2_ := Aside0.mk (blk_drew BK550.out)
   have n3_ := Aside0.mk (blk_drew BK556.out)
   have n4_ := Aside0.mk (below_drew1 HB.out)
   clear HO554
   clear BK549
   clear BK550
   clear BK556
   clear HB
   have HO554 := n0_
   have BK549 := n1_
   have BK550 := n2_
   have BK556 := n3_
   have HB := n4_
   clear n0_ n1_ n2_ n3_ n4_
   refine start_ (n := 18) (S := fun w' => w'.cell? ⟨gb556, 0, none⟩ = some (.bool t551) ∧ w'.cell? ⟨gb556, 1, none⟩ = some (.slice Ao30 t552.length co30) ∧ w'.cell? ⟨gb556, 2, none⟩ = some (.int .i64 t555)) (ds := []) #[false, false, false, false, false, false, false, false, false, false, false, false, false, false, false, false, false, false] (by kernel_rfl) rfl rfl ⟨(blk_cell BK556.out 0).trans rfl, (blk_cell BK556.out 1).trans rfl, (blk_cell BK556.out 2).trans rfl⟩ (fun hHeld => ?_); refine with_tabW pelorusref05_Round.tab7 pelorusref05_Round.bits7 (fun HT_ HW_ => ?_)
   generalize w31.drew = w32 at HO554 BK549 BK550 BK556 HB hHeld ⊢
   refine pure_ (i := 0) (N := some 32) (v := ?_) (a' := ?_) #[true, false, false, false, false, false, false, false, false, false, false, false, false, false, false, false, false, false] rfl rfl (any_of HT_.out (by kernel_rfl)) (fun _ _ _ h => h) (Or.inl ⟨by rfl, ?_⟩) ?_ ?_
   rotate_left
   ·intro w'
    go_simp
    with_reducible rfl
   rotate_left
   ·exact pt_
   refine pure_ (i := 1) (N := some 33) (v := ?_) (a' := ?_) #[true, true, false, false, false, false, false, false, false, false, false, false, false, false, false, false, false, false] rfl rfl (any_of HT_.out (by kernel_rfl)) (fun _ _ _ h => h) (Or.inl ⟨by rfl, ?_⟩) ?_ ?_
   rotate_left
   ·intro w'
    go_simp
    with_reducible rfl
   rotate_left
   ·exact pt_
   refine pure_ (i := 3) (N := some 35) (v := ?_) (a' := ?_) #[true, true, false, true, false, false, false, false, false, false, false, false, false, false, false, false, false, false] rfl rfl (any_of HT_.out (by kernel_rfl)) (fun _ _ _ h => h) (Or.inl ⟨by rfl, ?_⟩) ?_ ?_
   rotate_left
   ·intro w'
    go_simp
    with_reducible rfl
   rotate_left
   ·exact pt_
   refine pure_ (i := 4) (N := some 36) (v := ?_) (a' := ?_) #[true, true, false, true, true, false, false, false, false, false, false, false, false, false, false, false, false, false] rfl rfl (any_of HT_.out (by kernel_rfl)) (fun _ _ _ h => h) (Or.inl ⟨by rfl, ?_⟩) ?_ ?_
   rotate_left
   ·intro w'
    go_simp
    with_reducible rfl
   rotate_left
   ·exact pt_
   refine pure_ (i := 6) (N := some 38) (v := ?_) (a' := ?_) #[true, true, false, true, true, false, true, false, false, false, false, false, false, false, false, false, false, false] rfl rfl (any_of HT_.out (by kernel_rfl)) (fun _ _ _ h => h) (Or.inl ⟨by rfl, ?_⟩) ?_ ?_
   rotate_left
   ·intro w'
    go_simp
    with_reducible rfl
   rotate_left
   ·exact pt_
   refine pure_ (i := 7) (N := some 39) (v := ?_) (a' := ?_) #[true, true, false, true, true, false, true, true, false, false, false, false, false, false, false, false, false, false] rfl rfl (any_of HT_.out (by kernel_rfl)) (fun _ _ _ h => h) (Or.inl ⟨by rfl, ?_⟩) ?_ ?_
   rotate_left
   ·intro w'
    go_simp
    with_reducible rfl
   rotate_left
   ·exact pt_
   refine pure_ (i := 10) (N := some 42) (v := ?_) (a' := ?_) #[true, true, false, true, true, false, true, true, false, false, true, false, false, false, false, false, false, false] rfl rfl (any_of HT_.out (by kernel_rfl)) (fun _ _ _ h => h) (Or.inl ⟨by rfl, ?_⟩) ?_ ?_
   rotate_left
   ·intro w'
    go_simp
    with_reducible rfl
   rotate_left
   ·exact pt_
   refine pure_ (i := 12) (N := some 44) (v := ?_) (a' := ?_) #[true, true, false, true, true, false, true, true, false, false, true, false, true, false, false, false, false, false] rfl rfl (any_of HT_.out (by kernel_rfl)) (fun _ _ _ h => h) (Or.inl ⟨by rfl, ?_⟩) ?_ ?_
   rotate_left
   ·intro w'
    go_simp
    with_reducible rfl
   rotate_left
   ·exact pt_
   refine pure_ (i := 15) (N := some 47) (v := ?_) (a' := ?_) #[true, true, false, true, true, false, true, true, false, false, true, false, true, false, false, true, false, false] rfl rfl (any_of HT_.out (by kernel_rfl)) (fun _ _ _ h => h) (Or.inl ⟨by rfl, ?_⟩) ?_ ?_
   rotate_left
   ·intro w'
    go_simp
    with_reducible rfl
   rotate_left
   ·exact pt_
   refine take_ (i := 2) (N := some 34) (v := ?_) (a' := ?_) #[true, true, true, true, true, false, true, true, false, false, true, false, true, false, false, true, false, false] rfl rfl (take_ofW HT_.out HW_.out (by kernel_rfl)) (fun _ _ _ h => h) (Or.inl ⟨by rfl, ?_⟩) hHeld ?_ ?_
   rotate_left
   ·rintro w' ⟨s0, s1, s2⟩
    go_simp
    with_reducible rfl
   rotate_left
   ·exact pt_
   refine take_ (i := 5) (N := some 37) (v := ?_) (a' := ?_) #[true, true, true, true, true, true, true, true, false, false, true, false, true, false, false, true, false, false] rfl rfl (take_ofW HT_.out HW_.out (by kernel_rfl)) (fun _ _ _ h => h) (Or.inl ⟨by rfl, ?_⟩) hHeld ?_ ?_
   rotate_left
   ·rintro w' ⟨s0, s1, s2⟩
    go_simp
    with_reducible rfl
   rotate_left
   ·exact pt_
   refine take_ (i := 11) (N := some 43) (v := ?_) (a' := ?_) #[true, true, true, true, true, true, true, true, false, false, true, true, true, false, false, true, false, false] rfl rfl (take_ofW HT_.out HW_.out (by kernel_rfl)) (fun _ _ _ h => h) (Or.inl ⟨by rfl, ?_⟩) hHeld ?_ ?_
   rotate_left
   ·rintro w' ⟨s0, s1, s2⟩
    go_simp
    with_reducible rfl
   rotate_left
   ·exact pt_
   refine pure_ (i := 13) (N := some 45) (v := ?_) (a' := ?_) #[true, true, true, true, true, true, true, true, false, false, true, true, true, true, false, true, false, false] rfl rfl (any_of HT_.out (by kernel_rfl)) (fun _ _ _ h => h) (Or.inl ⟨by rfl, ?_⟩) ?_ ?_
   rotate_left
   ·intro w'
    go_simp
    with_reducible rfl
   rotate_left
   ·exact pt_
   refine pure_ (i := 14) (N := some 46) (v := ?_) (a' := ?_) #[true, true, true, true, true, true, true, true, false, false, true, true, true, true, true, true, false, false] rfl rfl (any_of HT_.out (by kernel_rfl)) (fun _ _ _ h => h) (Or.inl ⟨by rfl, ?_⟩) ?_ ?_
   rotate_left
   ·intro w'
    go_simp
    with_reducible rfl
   rotate_left
   ·exact pt_
   refine one_ (i := 8) (N := some 40) #[true, true, true, true, true, true, true, true, true, false, true, true, true, true, true, true, false, false] rfl rfl (one_of HT_.out (by kernel_rfl)) (by decide) (fun K hK => ?_)
   refine gs_ Try.func60 #[.slice Ao30 t552.length co30, .int .i64 (wrap64 (64 - t557))] ?_
   with_reducible refine (pelorusref01_Shl.calls k _ _ t552 (wrap64 (64 - t557)) t558 _ ?side1 ?side2 A18.out).mono ?_
   (case side1 => repeat (first | exact (Kd.R_reads' HO554.out).2.2 | (with_reducible refine Kd.C_alloc ?_ _) | (with_reducible refine Kd.C_drewN ?_ _) | (with_reducible refine Kd.C_drew ?_)))
   (case side2 => exact (Kd.R_reads' HO554.out).2.1)
   rintro e w33 ⟨v559, rfl, ho0, hb⟩
   refine ⟨_, rfl, ?_⟩
   have n0_ := Aside0.mk (Kd.R_elder' (by (with_reducible repeat (first | apply Kd.R_alloc | apply Kd.R_drewN | apply Kd.R_drew)); exact HO554.out) (Kd.R_base ho0) hb)
   have n1_ := Aside0.mk (Kd.R_lower (Kd.R_new' ho0 (Kd.R_lt (by (with_reducible repeat (first | apply Kd.R_alloc | apply Kd.R_drewN | apply Kd.R_drew)); exact HO554.out))) (below_size (bw_ HB.out)))
   have n2_ := kq_ BK549 hb
   have n3_ := kq_ BK550 hb
   have n4_ := kq_ BK556 hb
   have n5_ := bq_ HB hb
   clear HO554
   clear BK549
   clear BK550
   clear BK556
   clear HB
   have HO554 := n0_
   have HO560 := n1_
   have BK549 := n2_
   have BK550 := n3_
   have BK556 := n4_
   have HB := n5_
   clear n0_ n1_ n2_ n3_ n4_ n5_
   (try clear hb)
   (try clear hb2)
   (try clear hk)
   (try clear hi)
   (try clear ho0)
   obtain ⟨Ao34, co34, eo34⟩ := Kd.R_slice HO560.out
   (first | subst eo34 | (injection eo34 with f1_ f2_ f3_; have f4_ := f1_.symm; have f5_ := f3_.symm; clear f1_ f2_ f3_; subst f4_; subst f5_))
   refine hK.out _ _ ⟨(blk_cell BK556.out 0).trans rfl, (blk_cell BK556.out 1).trans rfl, (blk_cell BK556.out 2).trans rfl⟩ (fun hHeld => ?_)
   clear hK K
   refine norm_ (a' := ?_) ?_ ?_
   rotate_left
   ·show Act.put _ (some 40) _ = _
    exact pt_
   refine one_ (i := 9) (N := some 41) #[true, true, true, true, true, true, true, true, true, true, true, true, true, true, true, true, false, false] rfl rfl (one_of HT_.out (by kernel_rfl)) (by decide) (fun K hK => ?_)
   refine gs_ Try.func59 #[.slice Ao34 t558.length co34] ?_
   with_reducible refine (pelorusref05_word.calls k _ _ t558 t561 _ ?side1 ?side2 A19.out).mono ?_
   (case side1 => repeat (first | exact (Kd.R_reads' HO560.out).2.2 | (with_reducible refine Kd.C_alloc ?_ _) | (with_reducible refine Kd.C_drewN ?_ _) | (with_reducible refine Kd.C_drew ?_)))
   (case side2 => exact (Kd.R_reads' HO560.out).2.1)
   rintro e w' ⟨rfl, ⟨nd, rfl⟩⟩
   refine ⟨_, rfl, ?_⟩
   refine hK.out _ _ ⟨(blk_cell BK556.out 0).trans rfl, (blk_cell BK556.out 1).trans rfl, (blk_cell BK556.out 2).trans rfl⟩ (fun hHeld => ?_)
   clear hK K
   refine norm_ (a' := ?_) ?_ ?_
   rotate_left
   ·show Act.put _ (some 41) _ = _
    exact pt_
   refine one_ (i := 16) (N := some 48) #[true, true, true, true, true, true, true, true, true, true, true, true, true, true, true, true, true, false] rfl rfl (one_of HT_.out (by kernel_rfl)) (by decide) (fun K hK => ?_)
   refine gs_ Try.func58 #[.bool t551, .int .u64 t561, .int .i64 (wrap64 ((wrap64 (t555 + t557)) - 64)), .bool (a1 != t551)] ?_
   with_reducible refine (pelorusref05_finite.calls t551 t561 (wrap64 ((wrap64 (t555 + t557)) - 64)) (a1 != t551) t562 t563 t564 t565 _ A20.out).mono ?_
   rintro e w35 ⟨rfl, hb⟩
   refine ⟨_, rfl, ?_⟩
   have n0_ := Aside0.mk (Kd.R_below (by (with_reducible repeat (first | apply Kd.R_alloc | apply Kd.R_drewN | apply Kd.R_drew)); exact HO554.out) hb)
   have n1_ := Aside0.mk (Kd.R_below (by (with_reducible repeat (first | apply Kd.R_alloc | apply Kd.R_drewN | apply Kd.R_drew)); exact HO560.out) hb)
   have n2_ := kq_ BK549 hb
   have n3_ := kq_ BK550 hb
   have n4_ := kq_ BK556 hb
   have n5_ := bq_ HB hb
   clear HO554
   clear HO560
   clear BK549
   clear BK550
   clear BK556
   clear HB
   have HO554 := n0_
   have HO560 := n1_
   have BK549 := n2_
   have BK550 := n3_
   have BK556 := n4_
   have HB := n5_
   clear n0_ n1_ n2_ n3_ n4_ n5_
   (try clear hb)
   (try clear hb2)
   (try clear hk)
   (try clear hi)
   refine hK.out _ _ ⟨(blk_cell BK556.out 0).trans rfl, (blk_cell BK556.out 1).trans rfl, (blk_cell BK556.out 2).trans rfl⟩ (fun hHeld => ?_)
   clear hK K
   refine norm_ (a' := ?_) ?_ ?_
   rotate_left
   ·show Act.put _ (some 48) _ = _
    exact pt_
   refine one_ (i := 17) (N := none) #[true, true, true, true, true, true, true, true, true, true, true, true, true, true, true, true, true, true] rfl rfl (one_of HT_.out (by kernel_rfl)) (by decide) (fun K hK => ?_)
   have hs36 : w35.cell? ⟨gb550, 0, none⟩ = some (.int .i64 0) := (blk_cell BK550.out 0).trans rfl
   have hfs36 := fz_ BK550 0
   have hns36_0 := NB549_550.out
   have hns36_2 := NB556_550.out
   have hms36_0 := NB550_549.out
   have hms36_2 := NB550_556.out
   have hs37 : w35.cell? ⟨gb550, 1, none⟩ = some (.bool false) := (blk_cell BK550.out 1).trans rfl
   have hfs37 := fz_ BK550 1
   have hns37_0 := NB549_550.out
   have hns37_2 := NB556_550.out
   have hms37_0 := NB550_549.out
   have hms37_2 := NB550_556.out
   have hs38 : w35.cell? ⟨gb550, 2, none⟩ = some (.int .u64 0) := (blk_cell BK550.out 2).trans rfl
   have hfs38 := fz_ BK550 2
   have hns38_0 := NB549_550.out
   have hns38_2 := NB556_550.out
   have hms38_0 := NB550_549.out
   have hms38_2 := NB550_556.out
   have hs39 : w35.cell? ⟨gb550, 3, none⟩ = some (.int .i64 0) := (blk_cell BK550.out 3).trans rfl
   have hfs39 := fz_ BK550 3
   have hns39_0 := NB549_550.out
   have hns39_2 := NB556_550.out
   have hms39_0 := NB550_549.out
   have hms39_2 := NB550_556.out
   refine skip_ (w1 := ?_) (by rfl) rfl ?_ ?_
   rotate_left
   ·go_simp
    rfl
   refine hK.out _ _ ⟨((cell_far (p := ⟨gb550, _, none⟩) NB556_550.out _).trans (((cell_far (p := ⟨gb550, _, none⟩) NB556_550.out _).trans (((cell_far (p := ⟨gb550, _, none⟩) NB556_550.out _).trans (((cell_far (p := ⟨gb550, _, none⟩) NB556_550.out _).trans (hHeld.1)))))))), ((cell_far (p := ⟨gb550, _, none⟩) NB556_550.out _).trans (((cell_far (p := ⟨gb550, _, none⟩) NB556_550.out _).trans (((cell_far (p := ⟨gb550, _, none⟩) NB556_550.out _).trans (((cell_far (p := ⟨gb550, _, none⟩) NB556_550.out _).trans (hHeld.2.1)))))))), ((cell_far (p := ⟨gb550, _, none⟩) NB556_550.out _).trans (((cell_far (p := ⟨gb550, _, none⟩) NB556_550.out _).trans (((cell_far (p := ⟨gb550, _, none⟩) NB556_550.out _).trans (((cell_far (p := ⟨gb550, _, none⟩) NB556_550.out _).trans (hHeld.2.2))))))))⟩ (fun hHeld => ?_)
   clear hK K
   refine done_ (done_of HT_.out (by kernel_rfl)) ?_
   try go_wp2
   refine bodyPost_ret (results_cell_row rfl _ _ gb550 24 #[.int .i64 t562, .bool t563, .int .u64 t564, .int .i64 t565] (0, 0) _ rfl (by refine kb_ ?_; refine bp_ #[.int .i64 t562, .bool t563, .int .u64 t564, .int .i64 0] 3 ?_; refine bp_ #[.int .i64 t562, .bool t563, .int .u64 0, .int .i64 0] 2 ?_; refine bp_ #[.int .i64 t562, .bool false, .int .u64 0, .int .i64 0] 1 ?_; refine bp_ #[.int .i64 0, .bool false, .int .u64 0, .int .i64 0] 0 ?_; exact BK550.out) Try.underlying24 rfl (by kernel_rfl)) rfl ?_
   exact ⟨rf_, bw_ HB.out⟩
  ·rw [if_neg c17] at H
   have c17b0 : decide (t557 ≤ 64) = false := decide_eq_false c17
   clear c17
   replace H := Option.bind_eq_some_iff.mp H
   obtain ⟨t566, A400, H⟩ := H
   (try dsimp only at H)
   have A40 := Aside0.mk A400
   clear A400
   by_cases c41 : (a1 != t551) = true
   ·rw [if_pos c41] at H
    have c41b0 : (a1 != t551) = true := c41
    (try (have c41b1 : decide (a1 = t551) = false := by simpa using c41))
    (try (have c41b2 : (a1 == t551) = false := by simpa using c41))
    (try (have c41b3 : ¬ (a1 = t551) := by simpa using c41))
    clear c41
    obtain ⟨y569, hy569⟩ : ∃ y_ : List Int, y_ = (([1] : List Int)) := ⟨_, rfl⟩
    replace H : ((pelorusref01_Add.f k t566 y569).bind fun t572 => ((pelorusref01_Len.f k t572).bind fun t575 => (if t575 > 64 then ((pelorusref01_Shr.f k t572 1).bind fun t576 => ((pelorusref05_word.f k t576).bind fun t579 => ((pelorusref05_finite.f t551 t579 (wrap64 ((wrap64 ((wrap64 (t555 + t557)) - 64)) + 1)) (a1 != t551)).bind fun bt580 => (some (bt580.1, bt580.2.1, bt580.2.2.1, bt580.2.2.2))))) else ((pelorusref05_word.f k t572).bind fun t584 => ((pelorusref05_finite.f t551 t584 (wrap64 ((wrap64 (t555 + t557)) - 64)) (a1 != t551)).bind fun bt585 => (some (bt585.1, bt585.2.1, bt585.2.2.1, bt585.2.2.2))))))) = some (r1, r2, r3, r4) := by first | (rw [hy569]; with_reducible exact H) | (have H2_ := (Option.bind_some _ _).symm.trans H; rw [hy569]; with_reducible exact H2_) | (have H2_ := (Option.bind_some _ _).symm.trans H; with_reducible exact H2_) | with_reducible exact H | (rw [hy569]; exact H) | exact H
    have Ny569 := Aside0.mk hy569
    clear hy569
    replace H := Option.bind_eq_some_iff.mp H
    obtain ⟨t572, A420, H⟩ := H
    (try dsimp only at H)
    have A42 := Aside0.mk A420
    clear A420
    replace H := Option.bind_eq_some_iff.mp H
    obtain ⟨t575, A430, H⟩ := H
    (try dsimp only at H)
    have A43 := Aside0.mk A430
    clear A430
    by_cases c44 : t575 > 64
    ·rw [if_pos c44] at H
     have c44b0 : decide (64 < t575) = true := decide_eq_true c44
     clear c44
     replace H := Option.bind_eq_some_iff.mp H
     obtain ⟨t576, A450, H⟩ := H
     (try dsimp only at H)
     have A45 := Aside0.mk A450
     clear A450
     replace H := Option.bind_eq_some_iff.mp H
     obtain ⟨t579, A460, H⟩ := H
     (try dsimp only at H)
     have A46 := Aside0.mk A460
     clear A460
     replace H := Option.bind_eq_some_iff.mp H
     obtain ⟨⟨t580, t581, t582, t583⟩, A470, H⟩ := H
     (try dsimp only at H)
     have A47 := Aside0.mk A470
     clear A470
     simp only [Option.some.injEq, Prod.mk.injEq] at H
     obtain ⟨rfl, rfl, rfl, rfl⟩ := H
     go_enter Try.func40, Try.ntmps40
     try go_wp2_with (first | ((with_reducible refine gate_dst (N := 2) rfl ?_); refine bx_ 2 #[.bool a0_0, .slice A0_1 l0_1.length c0_1, .int .i64 a0_2] 50 ?_; intro gb549 hg w48 hbox hb; have n0_ := bq_ HB hb; have n1_ := Aside0.mk (hbox); have n2_ := ge_ hg HB; have n3_ := ge_ hg HB; clear HB; have HB := n0_; have BK549 := n1_; have GW549 := n2_; have GE549 := n3_; clear n0_ n1_ n2_ n3_; clear hb hbox hg) | ((with_reducible refine gate_dst (N := 4) rfl ?_); refine bx_ 4 #[.int .i64 0, .bool false, .int .u64 0, .int .i64 0] 24 ?_; intro gb550 hg w49 hbox hb; have n0_ := kq_ BK549 hb; have n1_ := bq_ HB hb; have n2_ := Aside0.mk (hbox); have n3_ := ge_ hg HB; have n4_ := ge_ hg HB; have n5_ := nb_ hg BK549; have n6_ := nc_ hg BK549; clear BK549; clear HB; have BK549 := n0_; have HB := n1_; have BK550 := n2_; have GW550 := n3_; have GE550 := n4_; have NB549_550 := n5_; have NB550_549 := n6_; clear n0_ n1_ n2_ n3_ n4_ n5_ n6_; clear hb hbox hg; have hnb50 := NB549_550.out; have hnc50 := NB550_549.out; obtain ⟨hcz51_0, hcz51_1, hcz51_2, hfz51_0, hfz51_1, hfz51_2⟩ := c3_ BK549) | ((with_reducible refine gate_callee (f := 54) rfl ?_); refine gl_ (some 14) Try.func54 #[.agg #[.bool a0_0, .slice A0_1 l0_1.length c0_1], .int .i64 a0_2] ?_; (with_reducible refine (pelorusref03_Make.calls k a0_0 _ _ l0_1 a0_2 t551 t552 t555 _ ?side1 ?side2 A3.out).mono ?_); (case side1 => repeat (first | exact (Kd.C_below HR0_1.out HB.out) | (with_reducible refine Kd.C_alloc ?_ _) | (with_reducible refine Kd.C_drewN ?_ _) | (with_reducible refine Kd.C_drew ?_))); (case side2 => exact HC0_1.out); rintro e w52 ⟨v553, rfl, ho0, hb⟩; refine ⟨_, rfl, ?_⟩; have n0_ := Aside0.mk (Kd.R_lower ho0 (below_size (bw_ HB.out))); have n1_ := kq_ BK549 hb; have n2_ := kq_ BK550 hb; have n3_ := bq_ HB hb; clear BK549; clear BK550; clear HB; have HO554 := n0_; have BK549 := n1_; have BK550 := n2_; have HB := n3_; clear n0_ n1_ n2_ n3_; (try clear hb); (try clear hb2); (try clear hk); (try clear hi); (try clear ho0)) | ((with_reducible refine gate_dst (N := 5) rfl ?_); refine bx_ 5 #[.bool false, .slice none 0 0, .int .i64 0] 50 ?_; intro gb556 hg w53 hbox hb; have n0_ := Aside0.mk (Kd.R_below (by (with_reducible repeat (first | apply Kd.R_alloc | apply Kd.R_drewN | apply Kd.R_drew)); exact HO554.out) hb); have n1_ := kq_ BK549 hb; have n2_ := kq_ BK550 hb; have n3_ := bq_ HB hb; have n4_ := Aside0.mk (hbox); have n5_ := ge_ hg HB; have n6_ := ge_ hg HB; have n7_ := nb_ hg BK549; have n8_ := nc_ hg BK549; have n9_ := nb_ hg BK550; have n10_ := nc_ hg BK550; clear HO554; clear BK549; clear BK550; clear HB; have HO554 := n0_; have BK549 := n1_; have BK550 := n2_; have HB := n3_; have BK556 := n4_; have GW556 := n5_; have GE556 := n6_; have NB549_556 := n7_; have NB556_549 := n8_; have NB550_556 := n9_; have NB556_550 := n10_; clear n0_ n1_ n2_ n3_ n4_ n5_ n6_ n7_ n8_ n9_ n10_; clear hb hbox hg; have hnb54 := NB556_549.out; have hnc54 := NB549_556.out; have hnb55 := NB556_550.out; have hnc55 := NB550_556.out; obtain ⟨hcz56_0, hcz56_1, hcz56_2, hfz56_0, hfz56_1, hfz56_2⟩ := c3_ BK556; obtain ⟨Ao57, co57, eo57⟩ := Kd.R_slice HO554.out; subst eo57) | ((with_reducible refine gate_callee (f := 57) rfl ?_); refine gl_ (some 29) Try.func57 #[.slice Ao57 t552.length co57] ?_; (with_reducible refine (pelorusref01_Len.calls k _ _ t552 t557 _ ?side1 ?side2 A16.out).mono ?_); (case side1 => refine (Kd.R_reads' (e := 68) (base := w.heap.size) (ok := fun k_ => True) (n := t552.length) (c := co57) ?_).2.2; exact (by (with_reducible repeat (first | apply Kd.R_alloc | apply Kd.R_drewN | apply Kd.R_drew)); exact (Kd.R_mono (Kd.R_far (p := ⟨gb556, 2, none⟩) (Kd.R_far (p := ⟨gb556, 1, none⟩) (Kd.R_far (p := ⟨gb556, 0, none⟩) (Kd.R_types HO554.out BK556.out (by decide)) (fun _ hk => hk.2) (.bool t551)) (fun _ hk => hk.2) (.slice Ao57 t552.length co57)) (fun _ hk => hk.2) (.int .i64 t555)) (fun _ h_ => h_.1)))); (case side2 => exact (Kd.R_reads' HO554.out).2.1); rintro e w58 ⟨rfl, hb⟩; refine ⟨_, rfl, ?_⟩; have n0_ := Aside0.mk (Kd.R_below (by (with_reducible repeat (first | apply Kd.R_alloc | apply Kd.R_drewN | apply Kd.R_drew)); exact (Kd.R_mono (Kd.R_far (p := ⟨gb556, 2, none⟩) (Kd.R_far (p := ⟨gb556, 1, none⟩) (Kd.R_far (p := ⟨gb556, 0, none⟩) (Kd.R_types HO554.out BK556.out (by decide)) (fun _ hk => hk.2) (.bool t551)) (fun _ hk => hk.2) (.slice Ao57 t552.length co57)) (fun _ hk => hk.2) (.int .i64 t555)) (fun _ h_ => h_.1))) hb); have n1_ := Aside0.mk (blk_below (g := gb549) (o := .cells #[.bool a0_0, .slice A0_1 l0_1.length c0_1, .int .i64 a0_2] 50 (0, 0)) (by refine kb_ ?_; refine bf_ NB549_556 ?_; refine bf_ NB549_556 ?_; refine bf_ NB549_556 ?_; exact BK549.out) hb); have n2_ := Aside0.mk (blk_below (g := gb550) (o := .cells #[.int .i64 0, .bool false, .int .u64 0, .int .i64 0] 24 (0, 0)) (by refine kb_ ?_; refine bf_ NB550_556 ?_; refine bf_ NB550_556 ?_; refine bf_ NB550_556 ?_; exact BK550.out) hb); have n3_ := Aside0.mk (blk_below (g := gb556) (o := .cells #[.bool t551, .slice Ao57 t552.length co57, .int .i64 t555] 50 (0, 0)) (by refine kb_ ?_; refine bp_ #[.bool t551, .slice Ao57 t552.length co57, .int .i64 0] 2 ?_; refine bp_ #[.bool t551, .slice none 0 0, .int .i64 0] 1 ?_; refine bp_ #[.bool false, .slice none 0 0, .int .i64 0] 0 ?_; exact BK556.out) hb); have n4_ := bq_ HB hb; clear HO554; clear BK549; clear BK550; clear BK556; clear HB; have HO554 := n0_; have BK549 := n1_; have BK550 := n2_; have BK556 := n3_; have HB := n4_; clear n0_ n1_ n2_ n3_ n4_; (try clear hb); (try clear hb2); (try clear hk); (try clear hi); obtain ⟨hcz59_0, hcz59_1, hcz59_2, hfz59_0, hfz59_1, hfz59_2⟩ := c3_ BK556) | ((with_reducible refine gate_callee (f := 61) rfl ?_); refine gl_ (some 54) Try.func61 #[.slice Ao57 t552.length co57, .int .i64 (wrap64 (t557 - 64))] ?_; (with_reducible refine (pelorusref01_Shr.calls k _ _ t552 (wrap64 (t557 - 64)) t566 _ ?side1 ?side2 A40.out).mono ?_); (case side1 => repeat (first | exact (Kd.R_reads' HO554.out).2.2 | (with_reducible refine Kd.C_alloc ?_ _) | (with_reducible refine Kd.C_drewN ?_ _) | (with_reducible refine Kd.C_drew ?_))); (case side2 => exact (Kd.R_reads' HO554.out).2.1); rintro e w60 ⟨v567, rfl, ho0, hb⟩; refine ⟨_, rfl, ?_⟩; have n0_ := Aside0.mk (Kd.R_elder' (by (with_reducible repeat (first | apply Kd.R_alloc | apply Kd.R_drewN | apply Kd.R_drew)); exact HO554.out) (Kd.R_base ho0) hb); have n1_ := Aside0.mk (Kd.R_lower (Kd.R_new' ho0 (Kd.R_lt (by (with_reducible repeat (first | apply Kd.R_alloc | apply Kd.R_drewN | apply Kd.R_drew)); exact HO554.out))) (below_size (bw_ HB.out))); have n2_ := kq_ BK549 hb; have n3_ := kq_ BK550 hb; have n4_ := kq_ BK556 hb; have n5_ := bq_ HB hb; clear HO554; clear BK549; clear BK550; clear BK556; clear HB; have HO554 := n0_; have HO568 := n1_; have BK549 := n2_; have BK550 := n3_; have BK556 := n4_; have HB := n5_; clear n0_ n1_ n2_ n3_ n4_ n5_; (try clear hb); (try clear hb2); (try clear hk); (try clear hi); (try clear ho0); obtain ⟨hcz61_0, hcz61_1, hcz61_2, hfz61_0, hfz61_1, hfz61_2⟩ := c3_ BK556) | ((with_reducible refine gate_dst (N := 62) rfl ?_); refine Kd.R_lit (Kd.int .u32) _ 68 ?hg (N := 62) ?hd (xs := ([1] : List Int)) (inner := [.int .u32 1]) (ok := fun _ => True) (okp := fun _ => True) ?hr ?hp (fun _ hk => hk) trivial (Below.refl _ _) (Nat.le_refl _) (by simp) ?_; (case hd => rfl); (case hg => rfl); (case hr => first | (go_simp; done) | (go_simp; rfl)); (case hp => exact (Reps.one (show Kd.M (Kd.int .u32) _ _ _ 1 [.int .u32 1] from rfl) (Reps.none _ _))); intro v570 w62 ho63 hb hg_ hnew_; clear hg_ hnew_; (first | rw [← Ny569.out] at ho63 | (simp only [Int.reduceToNat] at ho63; rw [← Ny569.out] at ho63)); have n0_ := Aside0.mk (Kd.R_elder' (by (with_reducible repeat (first | apply Kd.R_alloc | apply Kd.R_drewN | apply Kd.R_drew)); exact HO554.out) (Kd.R_base ho63) hb); have n1_ := Aside0.mk (Kd.R_elder' (by (with_reducible repeat (first | apply Kd.R_alloc | apply Kd.R_drewN | apply Kd.R_drew)); exact HO568.out) (Kd.R_base ho63) hb); have n2_ := Aside0.mk (Kd.R_lower (Kd.R_new' (Kd.R_new' ho63 (Kd.R_lt (by (with_reducible repeat (first | apply Kd.R_alloc | apply Kd.R_drewN | apply Kd.R_drew)); exact HO554.out))) (Kd.R_lt (by (with_reducible repeat (first | apply Kd.R_alloc | apply Kd.R_drewN | apply Kd.R_drew)); exact HO568.out))) (below_size (bw_ HB.out))); have n3_ := kq_ BK549 hb; have n4_ := kq_ BK550 hb; have n5_ := kq_ BK556 hb; have n6_ := bq_ HB hb; clear HO554; clear HO568; clear BK549; clear BK550; clear BK556; clear HB; have HO554 := n0_; have HO568 := n1_; have HO571 := n2_; have BK549 := n3_; have BK550 := n4_; have BK556 := n5_; have HB := n6_; clear n0_ n1_ n2_ n3_ n4_ n5_ n6_; clear hb ho63; obtain ⟨Ao64, co64, eo64⟩ := Kd.R_slice HO568.out; subst eo64; obtain ⟨Ao65, co65, eo65⟩ := Kd.R_slice HO571.out; subst eo65) | ((with_reducible refine gate_callee (f := 62) rfl ?_); refine gl_ (some 63) Try.func62 #[.slice Ao64 t566.length co64, .slice Ao65 y569.length co65] ?_; (with_reducible refine (pelorusref01_Add.calls k _ _ t566 _ _ y569 t572 _ ?side1 ?side2 ?side3 ?side4 A42.out).mono ?_); (case side1 => repeat (first | exact (Kd.R_reads' HO568.out).2.2 | (with_reducible refine Kd.C_alloc ?_ _) | (with_reducible refine Kd.C_drewN ?_ _) | (with_reducible refine Kd.C_drew ?_))); (case side2 => exact (Kd.R_reads' HO568.out).2.1); (case side3 => repeat (first | exact (Kd.R_reads' HO571.out).2.2 | (with_reducible refine Kd.C_alloc ?_ _) | (with_reducible refine Kd.C_drewN ?_ _) | (with_reducible refine Kd.C_drew ?_))); (case side4 => exact (Kd.R_reads' HO571.out).2.1); rintro e w66 ⟨v573, rfl, ho0, hb⟩; refine ⟨_, rfl, ?_⟩; have n0_ := Aside0.mk (Kd.R_elder' (by (with_reducible repeat (first | apply Kd.R_alloc | apply Kd.R_drewN | apply Kd.R_drew)); exact HO554.out) (Kd.R_base ho0) hb); have n1_ := Aside0.mk (Kd.R_elder' (by (with_reducible repeat (first | apply Kd.R_alloc | apply Kd.R_drewN | apply Kd.R_drew)); exact HO568.out) (Kd.R_base ho0) hb); have n2_ := Aside0.mk (Kd.R_elder' (by (with_reducible repeat (first | apply Kd.R_alloc | apply Kd.R_drewN | apply Kd.R_drew)); exact HO571.out) (Kd.R_base ho0) hb); have n3_ := Aside0.mk (Kd.R_lower (Kd.R_new' (Kd.R_new' (Kd.R_new' ho0 (Kd.R_lt (by (with_reducible repeat (first | apply Kd.R_alloc | apply Kd.R_drewN | apply Kd.R_drew)); exact HO554.out))) (Kd.R_lt (by (with_reducible repeat (first | apply Kd.R_alloc | apply Kd.R_drewN | apply Kd.R_drew)); exact HO568.out))) (Kd.R_lt (by (with_reducible repeat (first | apply Kd.R_alloc | apply Kd.R_drewN | apply Kd.R_drew)); exact HO571.out))) (below_size (bw_ HB.out))); have n4_ := kq_ BK549 hb; have n5_ := kq_ BK550 hb; have n6_ := kq_ BK556 hb; have n7_ := bq_ HB hb; clear HO554; clear HO568; clear HO571; clear BK549; clear BK550; clear BK556; clear HB; have HO554 := n0_; have HO568 := n1_; have HO571 := n2_; have HO574 := n3_; have BK549 := n4_; have BK550 := n5_; have BK556 := n6_; have HB := n7_; clear n0_ n1_ n2_ n3_ n4_ n5_ n6_ n7_; (try clear hb); (try clear hb2); (try clear hk); (try clear hi); (try clear ho0); obtain ⟨Ao67, co67, eo67⟩ := Kd.R_slice HO574.out; subst eo67) | ((with_reducible refine gate_callee (f := 57) rfl ?_); refine gl_ (some 65) Try.func57 #[.slice Ao67 t572.length co67] ?_; (with_reducible refine (pelorusref01_Len.calls k _ _ t572 t575 _ ?side1 ?side2 A43.out).mono ?_); (case side1 => repeat (first | exact (Kd.R_reads' HO574.out).2.2 | (with_reducible refine Kd.C_alloc ?_ _) | (with_reducible refine Kd.C_drewN ?_ _) | (with_reducible refine Kd.C_drew ?_))); (case side2 => exact (Kd.R_reads' HO574.out).2.1); rintro e w68 ⟨rfl, hb⟩; refine ⟨_, rfl, ?_⟩; have n0_ := Aside0.mk (Kd.R_below (by (with_reducible repeat (first | apply Kd.R_alloc | apply Kd.R_drewN | apply Kd.R_drew)); exact HO554.out) hb); have n1_ := Aside0.mk (Kd.R_below (by (with_reducible repeat (first | apply Kd.R_alloc | apply Kd.R_drewN | apply Kd.R_drew)); exact HO568.out) hb); have n2_ := Aside0.mk (Kd.R_below (by (with_reducible repeat (first | apply Kd.R_alloc | apply Kd.R_drewN | apply Kd.R_drew)); exact HO571.out) hb); have n3_ := Aside0.mk (Kd.R_below (by (with_reducible repeat (first | apply Kd.R_alloc | apply Kd.R_drewN | apply Kd.R_drew)); exact HO574.out) hb); have n4_ := kq_ BK549 hb; have n5_ := kq_ BK550 hb; have n6_ := kq_ BK556 hb; have n7_ := bq_ HB hb; clear HO554; clear HO568; clear HO571; clear HO574; clear BK549; clear BK550; clear BK556; clear HB; have HO554 := n0_; have HO568 := n1_; have HO571 := n2_; have HO574 := n3_; have BK549 := n4_; have BK550 := n5_; have BK556 := n6_; have HB := n7_; clear n0_ n1_ n2_ n3_ n4_ n5_ n6_ n7_; (try clear hb); (try clear hb2); (try clear hk); (try clear hi)) | ((with_reducible refine gate_callee (f := 61) rfl ?_); refine gl_ (some 68) Try.func61 #[.slice Ao67 t572.length co67, .int .i64 1] ?_; (with_reducible refine (pelorusref01_Shr.calls k _ _ t572 1 t576 _ ?side1 ?side2 A45.out).mono ?_); (case side1 => repeat (first | exact (Kd.R_reads' HO574.out).2.2 | (with_reducible refine Kd.C_alloc ?_ _) | (with_reducible refine Kd.C_drewN ?_ _) | (with_reducible refine Kd.C_drew ?_))); (case side2 => exact (Kd.R_reads' HO574.out).2.1); rintro e w69 ⟨v577, rfl, ho0, hb⟩; refine ⟨_, rfl, ?_⟩; have n0_ := Aside0.mk (Kd.R_elder' (by (with_reducible repeat (first | apply Kd.R_alloc | apply Kd.R_drewN | apply Kd.R_drew)); exact HO554.out) (Kd.R_base ho0) hb); have n1_ := Aside0.mk (Kd.R_elder' (by (with_reducible repeat (first | apply Kd.R_alloc | apply Kd.R_drewN | apply Kd.R_drew)); exact HO568.out) (Kd.R_base ho0) hb); have n2_ := Aside0.mk (Kd.R_elder' (by (with_reducible repeat (first | apply Kd.R_alloc | apply Kd.R_drewN | apply Kd.R_drew)); exact HO571.out) (Kd.R_base ho0) hb); have n3_ := Aside0.mk (Kd.R_elder' (by (with_reducible repeat (first | apply Kd.R_alloc | apply Kd.R_drewN | apply Kd.R_drew)); exact HO574.out) (Kd.R_base ho0) hb); have n4_ := Aside0.mk (Kd.R_lower (Kd.R_new' (Kd.R_new' (Kd.R_new' (Kd.R_new' ho0 (Kd.R_lt (by (with_reducible repeat (first | apply Kd.R_alloc | apply Kd.R_drewN | apply Kd.R_drew)); exact HO554.out))) (Kd.R_lt (by (with_reducible repeat (first | apply Kd.R_alloc | apply Kd.R_drewN | apply Kd.R_drew)); exact HO568.out))) (Kd.R_lt (by (with_reducible repeat (first | apply Kd.R_alloc | apply Kd.R_drewN | apply Kd.R_drew)); exact HO571.out))) (Kd.R_lt (by (with_reducible repeat (first | apply Kd.R_alloc | apply Kd.R_drewN | apply Kd.R_drew)); exact HO574.out))) (below_size (bw_ HB.out))); have n5_ := kq_ BK549 hb; have n6_ := kq_ BK550 hb; have n7_ := kq_ BK556 hb; have n8_ := bq_ HB hb; clear HO554; clear HO568; clear HO571; clear HO574; clear BK549; clear BK550; clear BK556; clear HB; have HO554 := n0_; have HO568 := n1_; have HO571 := n2_; have HO574 := n3_; have HO578 := n4_; have BK549 := n5_; have BK550 := n6_; have BK556 := n7_; have HB := n8_; clear n0_ n1_ n2_ n3_ n4_ n5_ n6_ n7_ n8_; (try clear hb); (try clear hb2); (try clear hk); (try clear hi); (try clear ho0)))
     have n0_ := Aside0.mk (Kd.R_drew HO554.out)
     have n1_ := Aside0.mk (Kd.R_drew HO568.out)
     have n2_ := Aside0.mk (Kd.R_drew HO571.out)
     have n3_ := Aside0.mk (Kd.R_drew HO574.out)
     have n4_ := Aside0.mk (Kd.R_drew HO578.out)
     have n5_ := Aside0.mk (blk_drew BK549.out)
     have n6_ := Aside0.mk (blk_drew BK550.out)
     have n7_ := Aside0.mk (blk_drew BK556.out)
     have n8_ := Aside0.mk (below_drew1 HB.out)
     clear HO554
     clear HO568
     clear HO571
     clear HO574
     clear HO578
     clear BK549
     clear BK550
     clear BK556
     clear HB
     have HO554 := n0_
     have HO568 := n1_
     have HO571 := n2_
     have HO574 := n3_
     have HO578 := n4_
     have BK549 := n5_
     have BK550 := n6_
     have BK556 := n7_
     have HB := n8_
     clear n0_ n1_ n2_ n3_ n4_ n5_ n6_ n7_ n8_
     obtain ⟨Ao71, co71, eo71⟩ := Kd.R_slice HO578.out
     (first | subst eo71 | (injection eo71 with f1_ f2_ f3_; have f4_ := f1_.symm; have f5_ := f3_.symm; clear f1_ f2_ f3_; subst f4_; subst f5_))
     refine start_ (n := 9) (S := fun w' => w'.cell? ⟨gb556, 0, none⟩ = some (.bool t551) ∧ w'.cell? ⟨gb556, 1, none⟩ = some (.slice Ao57 t552.length co57) ∧ w'.cell? ⟨gb556, 2, none⟩ = some (.int .i64 t555)) (ds := []) #[false, false, false, false, false, false, false, false, false] (by kernel_rfl) rfl rfl ⟨(blk_cell BK556.out 0).trans rfl, (blk_cell BK556.out 1).trans rfl, (blk_cell BK556.out 2).trans rfl⟩ (fun hHeld => ?_); refine with_tabW pelorusref05_Round.tab15 pelorusref05_Round.bits15 (fun HT_ HW_ => ?_)
     generalize w69.drew = w70 at HO554 HO568 HO571 HO574 HO578 BK549 BK550 BK556 HB hHeld ⊢
     refine pure_ (i := 0) (N := some 71) (v := ?_) (a' := ?_) #[true, false, false, false, false, false, false, false, false] rfl rfl (any_of HT_.out (by kernel_rfl)) (fun _ _ _ h => h) (Or.inl ⟨by rfl, ?_⟩) ?_ ?_
     rotate_left
     ·intro w'
      go_simp
      with_reducible rfl
     rotate_left
     ·exact pt_
     refine pure_ (i := 1) (N := some 72) (v := ?_) (a' := ?_) #[true, true, false, false, false, false, false, false, false] rfl rfl (any_of HT_.out (by kernel_rfl)) (fun _ _ _ h => h) (Or.inl ⟨by rfl, ?_⟩) ?_ ?_
     rotate_left
     ·intro w'
      go_simp
      with_reducible rfl
     rotate_left
     ·exact pt_
     refine pure_ (i := 3) (N := some 74) (v := ?_) (a' := ?_) #[true, true, false, true, false, false, false, false, false] rfl rfl (any_of HT_.out (by kernel_rfl)) (fun _ _ _ h => h) (Or.inl ⟨by rfl, ?_⟩) ?_ ?_
     rotate_left
     ·intro w'
      go_simp
      with_reducible rfl
     rotate_left
     ·exact pt_
     refine pure_ (i := 5) (N := some 76) (v := ?_) (a' := ?_) #[true, true, false, true, false, true, false, false, false] rfl rfl (any_of HT_.out (by kernel_rfl)) (fun _ _ _ h => h) (Or.inl ⟨by rfl, ?_⟩) ?_ ?_
     rotate_left
     ·intro w'
      go_simp
      with_reducible rfl
     rotate_left
     ·exact pt_
     refine pure_ (i := 6) (N := some 77) (v := ?_) (a' := ?_) #[true, true, false, true, false, true, true, false, false] rfl rfl (any_of HT_.out (by kernel_rfl)) (fun _ _ _ h => h) (Or.inl ⟨by rfl, ?_⟩) ?_ ?_
     rotate_left
     ·intro w'
      go_simp
      with_reducible rfl
     rotate_left
     ·exact pt_
     refine take_ (i := 2) (N := some 73) (v := ?_) (a' := ?_) #[true, true, true, true, false, true, true, false, false] rfl rfl (take_ofW HT_.out HW_.out (by kernel_rfl)) (fun _ _ _ h => h) (Or.inl ⟨by rfl, ?_⟩) hHeld ?_ ?_
     rotate_left
     ·rintro w' ⟨s0, s1, s2⟩
      go_simp
      with_reducible rfl
     rotate_left
     ·exact pt_
     refine one_ (i := 4) (N := some 75) #[true, true, true, true, true, true, true, false, false] rfl rfl (one_of HT_.out (by kernel_rfl)) (by decide) (fun K hK => ?_)
     refine gs_ Try.func59 #[.slice Ao71 t576.length co71] ?_
     with_reducible refine (pelorusref05_word.calls k _ _ t576 t579 _ ?side1 ?side2 A46.out).mono ?_
     (case side1 => repeat (first | exact (Kd.R_reads' HO578.out).2.2 | (with_reducible refine Kd.C_alloc ?_ _) | (with_reducible refine Kd.C_drewN ?_ _) | (with_reducible refine Kd.C_drew ?_)))
     (case side2 => exact (Kd.R_reads' HO578.out).2.1)
     rintro e w' ⟨rfl, ⟨nd, rfl⟩⟩
     refine ⟨_, rfl, ?_⟩
     refine hK.out _ _ ⟨(blk_cell BK556.out 0).trans rfl, (blk_cell BK556.out 1).trans rfl, (blk_cell BK556.out 2).trans rfl⟩ (fun hHeld => ?_)
     clear hK K
     refine norm_ (a' := ?_) ?_ ?_
     rotate_left
     ·show Act.put _ (some 75) _ = _
      exact pt_
     refine one_ (i := 7) (N := some 78) #[true, true, true, true, true, true, true, true, false] rfl rfl (one_of HT_.out (by kernel_rfl)) (by decide) (fun K hK => ?_)
     refine gs_ Try.func58 #[.bool t551, .int .u64 t579, .int .i64 (wrap64 ((wrap64 ((wrap64 (t555 + t557)) - 64)) + 1)), .bool (a1 != t551)] ?_
     with_reducible refine (pelorusref05_finite.calls t551 t579 (wrap64 ((wrap64 ((wrap64 (t555 + t557)) - 64)) + 1)) (a1 != t551) t580 t581 t582 t583 _ A47.out).mono ?_
     rintro e w72 ⟨rfl, hb⟩
     refine ⟨_, rfl, ?_⟩
     have n0_ := Aside0.mk (Kd.R_below (by (with_reducible repeat (first | apply Kd.R_alloc | apply Kd.R_drewN | apply Kd.R_drew)); exact HO554.out) hb)
     have n1_ := Aside0.mk (Kd.R_below (by (with_reducible repeat (first | apply Kd.R_alloc | apply Kd.R_drewN | apply Kd.R_drew)); exact HO568.out) hb)
     have n2_ := Aside0.mk (Kd.R_below (by (with_reducible repeat (first | apply Kd.R_alloc | apply Kd.R_drewN | apply Kd.R_drew)); exact HO571.out) hb)
     have n3_ := Aside0.mk (Kd.R_below (by (with_reducible repeat (first | apply Kd.R_alloc | apply Kd.R_drewN | apply Kd.R_drew)); exact HO574.out) hb)
     have n4_ := Aside0.mk (Kd.R_below (by (with_reducible repeat (first | apply Kd.R_alloc | apply Kd.R_drewN | apply Kd.R_drew)); exact HO578.out) hb)
     have n5_ := kq_ BK549 hb
     have n6_ := kq_ BK550 hb
     have n7_ := kq_ BK556 hb
     have n8_ := bq_ HB hb
     clear HO554
     clear HO568
     clear HO571
     clear HO574
     clear HO578
     clear BK549
     clear BK550
     clear BK556
     clear HB
     have HO554 := n0_
     have HO568 := n1_
     have HO571 := n2_
     have HO574 := n3_
     have HO578 := n4_
     have BK549 := n5_
     have BK550 := n6_
     have BK556 := n7_
     have HB := n8_
     clear n0_ n1_ n2_ n3_ n4_ n5_ n6_ n7_ n8_
     (try clear hb)
     (try clear hb2)
     (try clear hk)
     (try clear hi)
     refine hK.out _ _ ⟨(blk_cell BK556.out 0).trans rfl, (blk_cell BK556.out 1).trans rfl, (blk_cell BK556.out 2).trans rfl⟩ (fun hHeld => ?_)
     clear hK K
     refine norm_ (a' := ?_) ?_ ?_
     rotate_left
     ·show Act.put _ (some 78) _ = _
      exact pt_
     refine one_ (i := 8) (N := none) #[true, true, true, true, true, true, true, true, true] rfl rfl (one_of HT_.out (by kernel_rfl)) (by decide) (fun K hK => ?_)
     have hs73 : w72.cell? ⟨gb550, 0, none⟩ = some (.int .i64 0) := (blk_cell BK550.out 0).trans rfl
     have hfs73 := fz_ BK550 0
     have hns73_0 := NB549_550.out
     have hns73_2 := NB556_550.out
     have hms73_0 := NB550_549.out
     have hms73_2 := NB550_556.out
     have hs74 : w72.cell? ⟨gb550, 1, none⟩ = some (.bool false) := (blk_cell BK550.out 1).trans rfl
     have hfs74 := fz_ BK550 1
     have hns74_0 := NB549_550.out
     have hns74_2 := NB556_550.out
     have hms74_0 := NB550_549.out
     have hms74_2 := NB550_556.out
     have hs75 : w72.cell? ⟨gb550, 2, none⟩ = some (.int .u64 0) := (blk_cell BK550.out 2).trans rfl
     have hfs75 := fz_ BK550 2
     have hns75_0 := NB549_550.out
     have hns75_2 := NB556_550.out
     have hms75_0 := NB550_549.out
     have hms75_2 := NB550_556.out
     have hs76 : w72.cell? ⟨gb550, 3, none⟩ = some (.int .i64 0) := (blk_cell BK550.out 3).trans rfl
     have hfs76 := fz_ BK550 3
     have hns76_0 := NB549_550.out
     have hns76_2 := NB556_550.out
     have hms76_0 := NB550_549.out
     have hms76_2 := NB550_556.out
     refine skip_ (w1 := ?_) (by rfl) rfl ?_ ?_
     rotate_left
     ·go_simp
      rfl
     refine hK.out _ _ ⟨((cell_far (p := ⟨gb550, _, none⟩) NB556_550.out _).trans (((cell_far (p := ⟨gb550, _, none⟩) NB556_550.out _).trans (((cell_far (p := ⟨gb550, _, none⟩) NB556_550.out _).trans (((cell_far (p := ⟨gb550, _, none⟩) NB556_550.out _).trans (hHeld.1)))))))), ((cell_far (p := ⟨gb550, _, none⟩) NB556_550.out _).trans (((cell_far (p := ⟨gb550, _, none⟩) NB556_550.out _).trans (((cell_far (p := ⟨gb550, _, none⟩) NB556_550.out _).trans (((cell_far (p := ⟨gb550, _, none⟩) NB556_550.out _).trans (hHeld.2.1)))))))), ((cell_far (p := ⟨gb550, _, none⟩) NB556_550.out _).trans (((cell_far (p := ⟨gb550, _, none⟩) NB556_550.out _).trans (((cell_far (p := ⟨gb550, _, none⟩) NB556_550.out _).trans (((cell_far (p := ⟨gb550, _, none⟩) NB556_550.out _).trans (hHeld.2.2))))))))⟩ (fun hHeld => ?_)
     clear hK K
     refine done_ (done_of HT_.out (by kernel_rfl)) ?_
     try go_wp2
     refine bodyPost_ret (results_cell_row rfl _ _ gb550 24 #[.int .i64 t580, .bool t581, .int .u64 t582, .int .i64 t583] (0, 0) _ rfl (by refine kb_ ?_; refine bp_ #[.int .i64 t580, .bool t581, .int .u64 t582, .int .i64 0] 3 ?_; refine bp_ #[.int .i64 t580, .bool t581, .int .u64 0, .int .i64 0] 2 ?_; refine bp_ #[.int .i64 t580, .bool false, .int .u64 0, .int .i64 0] 1 ?_; refine bp_ #[.int .i64 0, .bool false, .int .u64 0, .int .i64 0] 0 ?_; exact BK550.out) Try.underlying24 rfl (by kernel_rfl)) rfl ?_
     exact ⟨rf_, bw_ HB.out⟩
    ·rw [if_neg c44] at H
     have c44b0 : decide (64 < t575) = false := decide_eq_false c44
     clear c44
     replace H := Option.bind_eq_some_iff.mp H
     obtain ⟨t584, A770, H⟩ := H
     (try dsimp only at H)
     have A77 := Aside0.mk A770
     clear A770
     replace H := Option.bind_eq_some_iff.mp H
     obtain ⟨⟨t585, t586, t587, t588⟩, A780, H⟩ := H
     (try dsimp only at H)
     have A78 := Aside0.mk A780
     clear A780
     simp only [Option.some.injEq, Prod.mk.injEq] at H
     obtain ⟨rfl, rfl, rfl, rfl⟩ := H
     go_enter Try.func40, Try.ntmps40
     try go_wp2_with (first | ((with_reducible refine gate_dst (N := 2) rfl ?_); refine bx_ 2 #[.bool a0_0, .slice A0_1 l0_1.length c0_1, .int .i64 a0_2] 50 ?_; intro gb549 hg w79 hbox hb; have n0_ := bq_ HB hb; have n1_ := Aside0.mk (hbox); have n2_ := ge_ hg HB; have n3_ := ge_ hg HB; clear HB; have HB := n0_; have BK549 := n1_; have GW549 := n2_; have GE549 := n3_; clear n0_ n1_ n2_ n3_; clear hb hbox hg) | ((with_reducible refine gate_dst (N := 4) rfl ?_); refine bx_ 4 #[.int .i64 0, .bool false, .int .u64 0, .int .i64 0] 24 ?_; intro gb550 hg w80 hbox hb; have n0_ := kq_ BK549 hb; have n1_ := bq_ HB hb; have n2_ := Aside0.mk (hbox); have n3_ := ge_ hg HB; have n4_ := ge_ hg HB; have n5_ := nb_ hg BK549; have n6_ := nc_ hg BK549; clear BK549; clear HB; have BK549 := n0_; have HB := n1_; have BK550 := n2_; have GW550 := n3_; have GE550 := n4_; have NB549_550 := n5_; have NB550_549 := n6_; clear n0_ n1_ n2_ n3_ n4_ n5_ n6_; clear hb hbox hg; have hnb81 := NB549_550.out; have hnc81 := NB550_549.out; obtain ⟨hcz82_0, hcz82_1, hcz82_2, hfz82_0, hfz82_1, hfz82_2⟩ := c3_ BK549) | ((with_reducible refine gate_callee (f := 54) rfl ?_); refine gl_ (some 14) Try.func54 #[.agg #[.bool a0_0, .slice A0_1 l0_1.length c0_1], .int .i64 a0_2] ?_; (with_reducible refine (pelorusref03_Make.calls k a0_0 _ _ l0_1 a0_2 t551 t552 t555 _ ?side1 ?side2 A3.out).mono ?_); (case side1 => repeat (first | exact (Kd.C_below HR0_1.out HB.out) | (with_reducible refine Kd.C_alloc ?_ _) | (with_reducible refine Kd.C_drewN ?_ _) | (with_reducible refine Kd.C_drew ?_))); (case side2 => exact HC0_1.out); rintro e w83 ⟨v553, rfl, ho0, hb⟩; refine ⟨_, rfl, ?_⟩; have n0_ := Aside0.mk (Kd.R_lower ho0 (below_size (bw_ HB.out))); have n1_ := kq_ BK549 hb; have n2_ := kq_ BK550 hb; have n3_ := bq_ HB hb; clear BK549; clear BK550; clear HB; have HO554 := n0_; have BK549 := n1_; have BK550 := n2_; have HB := n3_; clear n0_ n1_ n2_ n3_; (try clear hb); (try clear hb2); (try clear hk); (try clear hi); (try clear ho0)) | ((with_reducible refine gate_dst (N := 5) rfl ?_); refine bx_ 5 #[.bool false, .slice none 0 0, .int .i64 0] 50 ?_; intro gb556 hg w84 hbox hb; have n0_ := Aside0.mk (Kd.R_below (by (with_reducible repeat (first | apply Kd.R_alloc | apply Kd.R_drewN | apply Kd.R_drew)); exact HO554.out) hb); have n1_ := kq_ BK549 hb; have n2_ := kq_ BK550 hb; have n3_ := bq_ HB hb; have n4_ := Aside0.mk (hbox); have n5_ := ge_ hg HB; have n6_ := ge_ hg HB; have n7_ := nb_ hg BK549; have n8_ := nc_ hg BK549; have n9_ := nb_ hg BK550; have n10_ := nc_ hg BK550; clear HO554; clear BK549; clear BK550; clear HB; have HO554 := n0_; have BK549 := n1_; have BK550 := n2_; have HB := n3_; have BK556 := n4_; have GW556 := n5_; have GE556 := n6_; have NB549_556 := n7_; have NB556_549 := n8_; have NB550_556 := n9_; have NB556_550 := n10_; clear n0_ n1_ n2_ n3_ n4_ n5_ n6_ n7_ n8_ n9_ n10_; clear hb hbox hg; have hnb85 := NB556_549.out; have hnc85 := NB549_556.out; have hnb86 := NB556_550.out; have hnc86 := NB550_556.out; obtain ⟨hcz87_0, hcz87_1, hcz87_2, hfz87_0, hfz87_1, hfz87_2⟩ := c3_ BK556; obtain ⟨Ao88, co88, eo88⟩ := Kd.R_slice HO554.out; subst eo88) | ((with_reducible refine gate_callee (f := 57) rfl ?_); refine gl_ (some 29) Try.func57 #[.slice Ao88 t552.length co88] ?_; (with_reducible refine (pelorusref01_Len.calls k _ _ t552 t557 _ ?side1 ?side2 A16.out).mono ?_); (case side1 => refine (Kd.R_reads' (e := 68) (base := w.heap.size) (ok := fun k_ => True) (n := t552.length) (c := co88) ?_).2.2; exact (by (with_reducible repeat (first | apply Kd.R_alloc | apply Kd.R_drewN | apply Kd.R_drew)); exact (Kd.R_mono (Kd.R_far (p := ⟨gb556, 2, none⟩) (Kd.R_far (p := ⟨gb556, 1, none⟩) (Kd.R_far (p := ⟨gb556, 0, none⟩) (Kd.R_types HO554.out BK556.out (by decide)) (fun _ hk => hk.2) (.bool t551)) (fun _ hk => hk.2) (.slice Ao88 t552.length co88)) (fun _ hk => hk.2) (.int .i64 t555)) (fun _ h_ => h_.1)))); (case side2 => exact (Kd.R_reads' HO554.out).2.1); rintro e w89 ⟨rfl, hb⟩; refine ⟨_, rfl, ?_⟩; have n0_ := Aside0.mk (Kd.R_below (by (with_reducible repeat (first | apply Kd.R_alloc | apply Kd.R_drewN | apply Kd.R_drew)); exact (Kd.R_mono (Kd.R_far (p := ⟨gb556, 2, none⟩) (Kd.R_far (p := ⟨gb556, 1, none⟩) (Kd.R_far (p := ⟨gb556, 0, none⟩) (Kd.R_types HO554.out BK556.out (by decide)) (fun _ hk => hk.2) (.bool t551)) (fun _ hk => hk.2) (.slice Ao88 t552.length co88)) (fun _ hk => hk.2) (.int .i64 t555)) (fun _ h_ => h_.1))) hb); have n1_ := Aside0.mk (blk_below (g := gb549) (o := .cells #[.bool a0_0, .slice A0_1 l0_1.length c0_1, .int .i64 a0_2] 50 (0, 0)) (by refine kb_ ?_; refine bf_ NB549_556 ?_; refine bf_ NB549_556 ?_; refine bf_ NB549_556 ?_; exact BK549.out) hb); have n2_ := Aside0.mk (blk_below (g := gb550) (o := .cells #[.int .i64 0, .bool false, .int .u64 0, .int .i64 0] 24 (0, 0)) (by refine kb_ ?_; refine bf_ NB550_556 ?_; refine bf_ NB550_556 ?_; refine bf_ NB550_556 ?_; exact BK550.out) hb); have n3_ := Aside0.mk (blk_below (g := gb556) (o := .cells #[.bool t551, .slice Ao88 t552.length co88, .int .i64 t555] 50 (0, 0)) (by refine kb_ ?_; refine bp_ #[.bool t551, .slice Ao88 t552.length co88, .int .i64 0] 2 ?_; refine bp_ #[.bool t551, .slice none 0 0, .int .i64 0] 1 ?_; refine bp_ #[.bool false, .slice none 0 0, .int .i64 0] 0 ?_; exact BK556.out) hb); have n4_ := bq_ HB hb; clear HO554; clear BK549; clear BK550; clear BK556; clear HB; have HO554 := n0_; have BK549 := n1_; have BK550 := n2_; have BK556 := n3_; have HB := n4_; clear n0_ n1_ n2_ n3_ n4_; (try clear hb); (try clear hb2); (try clear hk); (try clear hi); obtain ⟨hcz90_0, hcz90_1, hcz90_2, hfz90_0, hfz90_1, hfz90_2⟩ := c3_ BK556) | ((with_reducible refine gate_callee (f := 61) rfl ?_); refine gl_ (some 54) Try.func61 #[.slice Ao88 t552.length co88, .int .i64 (wrap64 (t557 - 64))] ?_; (with_reducible refine (pelorusref01_Shr.calls k _ _ t552 (wrap64 (t557 - 64)) t566 _ ?side1 ?side2 A40.out).mono ?_); (case side1 => repeat (first | exact (Kd.R_reads' HO554.out).2.2 | (with_reducible refine Kd.C_alloc ?_ _) | (with_reducible refine Kd.C_drewN ?_ _) | (with_reducible refine Kd.C_drew ?_))); (case side2 => exact (Kd.R_reads' HO554.out).2.1); rintro e w91 ⟨v567, rfl, ho0, hb⟩; refine ⟨_, rfl, ?_⟩; have n0_ := Aside0.mk (Kd.R_elder' (by (with_reducible repeat (first | apply Kd.R_alloc | apply Kd.R_drewN | apply Kd.R_drew)); exact HO554.out) (Kd.R_base ho0) hb); have n1_ := Aside0.mk (Kd.R_lower (Kd.R_new' ho0 (Kd.R_lt (by (with_reducible repeat (first | apply Kd.R_alloc | apply Kd.R_drewN | apply Kd.R_drew)); exact HO554.out))) (below_size (bw_ HB.out))); have n2_ := kq_ BK549 hb; have n3_ := kq_ BK550 hb; have n4_ := kq_ BK556 hb; have n5_ := bq_ HB hb; clear HO554; clear BK549; clear BK550; clear BK556; clear HB; have HO554 := n0_; have HO568 := n1_; have BK549 := n2_; have BK550 := n3_; have BK556 := n4_; have HB := n5_; clear n0_ n1_ n2_ n3_ n4_ n5_; (try clear hb); (try clear hb2); (try clear hk); (try clear hi); (try clear ho0); obtain ⟨hcz92_0, hcz92_1, hcz92_2, hfz92_0, hfz92_1, hfz92_2⟩ := c3_ BK556) | ((with_reducible refine gate_dst (N := 62) rfl ?_); refine Kd.R_lit (Kd.int .u32) _ 68 ?hg (N := 62) ?hd (xs := ([1] : List Int)) (inner := [.int .u32 1]) (ok := fun _ => True) (okp := fun _ => True) ?hr ?hp (fun _ hk => hk) trivial (Below.refl _ _) (Nat.le_refl _) (by simp) ?_; (case hd => rfl); (case hg => rfl); (case hr => first | (go_simp; done) | (go_simp; rfl)); (case hp => exact (Reps.one (show Kd.M (Kd.int .u32) _ _ _ 1 [.int .u32 1] from rfl) (Reps.none _ _))); intro v570 w93 ho94 hb hg_ hnew_; clear hg_ hnew_; (first | rw [← Ny569.out] at ho94 | (simp only [Int.reduceToNat] at ho94; rw [← Ny569.out] at ho94)); have n0_ := Aside0.mk (Kd.R_elder' (by (with_reducible repeat (first | apply Kd.R_alloc | apply Kd.R_drewN | apply Kd.R_drew)); exact HO554.out) (Kd.R_base ho94) hb); have n1_ := Aside0.mk (Kd.R_elder' (by (with_reducible repeat (first | apply Kd.R_alloc | apply Kd.R_drewN | apply Kd.R_drew)); exact HO568.out) (Kd.R_base ho94) hb); have n2_ := Aside0.mk (Kd.R_lower (Kd.R_new' (Kd.R_new' ho94 (Kd.R_lt (by (with_reducible repeat (first | apply Kd.R_alloc | apply Kd.R_drewN | apply Kd.R_drew)); exact HO554.out))) (Kd.R_lt (by (with_reducible repeat (first | apply Kd.R_alloc | apply Kd.R_drewN | apply Kd.R_drew)); exact HO568.out))) (below_size (bw_ HB.out))); have n3_ := kq_ BK549 hb; have n4_ := kq_ BK550 hb; have n5_ := kq_ BK556 hb; have n6_ := bq_ HB hb; clear HO554; clear HO568; clear BK549; clear BK550; clear BK556; clear HB; have HO554 := n0_; have HO568 := n1_; have HO571 := n2_; have BK549 := n3_; have BK550 := n4_; have BK556 := n5_; have HB := n6_; clear n0_ n1_ n2_ n3_ n4_ n5_ n6_; clear hb ho94; obtain ⟨Ao95, co95, eo95⟩ := Kd.R_slice HO568.out; subst eo95; obtain ⟨Ao96, co96, eo96⟩ := Kd.R_slice HO571.out; subst eo96) | ((with_reducible refine gate_callee (f := 62) rfl ?_); refine gl_ (some 63) Try.func62 #[.slice Ao95 t566.length co95, .slice Ao96 y569.length co96] ?_; (with_reducible refine (pelorusref01_Add.calls k _ _ t566 _ _ y569 t572 _ ?side1 ?side2 ?side3 ?side4 A42.out).mono ?_); (case side1 => repeat (first | exact (Kd.R_reads' HO568.out).2.2 | (with_reducible refine Kd.C_alloc ?_ _) | (with_reducible refine Kd.C_drewN ?_ _) | (with_reducible refine Kd.C_drew ?_))); (case side2 => exact (Kd.R_reads' HO568.out).2.1); (case side3 => repeat (first | exact (Kd.R_reads' HO571.out).2.2 | (with_reducible refine Kd.C_alloc ?_ _) | (with_reducible refine Kd.C_drewN ?_ _) | (with_reducible refine Kd.C_drew ?_))); (case side4 => exact (Kd.R_reads' HO571.out).2.1); rintro e w97 ⟨v573, rfl, ho0, hb⟩; refine ⟨_, rfl, ?_⟩; have n0_ := Aside0.mk (Kd.R_elder' (by (with_reducible repeat (first | apply Kd.R_alloc | apply Kd.R_drewN | apply Kd.R_drew)); exact HO554.out) (Kd.R_base ho0) hb); have n1_ := Aside0.mk (Kd.R_elder' (by (with_reducible repeat (first | apply Kd.R_alloc | apply Kd.R_drewN | apply Kd.R_drew)); exact HO568.out) (Kd.R_base ho0) hb); have n2_ := Aside0.mk (Kd.R_elder' (by (with_reducible repeat (first | apply Kd.R_alloc | apply Kd.R_drewN | apply Kd.R_drew)); exact HO571.out) (Kd.R_base ho0) hb); have n3_ := Aside0.mk (Kd.R_lower (Kd.R_new' (Kd.R_new' (Kd.R_new' ho0 (Kd.R_lt (by (with_reducible repeat (first | apply Kd.R_alloc | apply Kd.R_drewN | apply Kd.R_drew)); exact HO554.out))) (Kd.R_lt (by (with_reducible repeat (first | apply Kd.R_alloc | apply Kd.R_drewN | apply Kd.R_drew)); exact HO568.out))) (Kd.R_lt (by (with_reducible repeat (first | apply Kd.R_alloc | apply Kd.R_drewN | apply Kd.R_drew)); exact HO571.out))) (below_size (bw_ HB.out))); have n4_ := kq_ BK549 hb; have n5_ := kq_ BK550 hb; have n6_ := kq_ BK556 hb; have n7_ := bq_ HB hb; clear HO554; clear HO568; clear HO571; clear BK549; clear BK550; clear BK556; clear HB; have HO554 := n0_; have HO568 := n1_; have HO571 := n2_; have HO574 := n3_; have BK549 := n4_; have BK550 := n5_; have BK556 := n6_; have HB := n7_; clear n0_ n1_ n2_ n3_ n4_ n5_ n6_ n7_; (try clear hb); (try clear hb2); (try clear hk); (try clear hi); (try clear ho0); obtain ⟨Ao98, co98, eo98⟩ := Kd.R_slice HO574.out; subst eo98) | ((with_reducible refine gate_callee (f := 57) rfl ?_); refine gl_ (some 65) Try.func57 #[.slice Ao98 t572.length co98] ?_; (with_reducible refine (pelorusref01_Len.calls k _ _ t572 t575 _ ?side1 ?side2 A43.out).mono ?_); (case side1 => repeat (first | exact (Kd.R_reads' HO574.out).2.2 | (with_reducible refine Kd.C_alloc ?_ _) | (with_reducible refine Kd.C_drewN ?_ _) | (with_reducible refine Kd.C_drew ?_))); (case side2 => exact (Kd.R_reads' HO574.out).2.1); rintro e w99 ⟨rfl, hb⟩; refine ⟨_, rfl, ?_⟩; have n0_ := Aside0.mk (Kd.R_below (by (with_reducible repeat (first | apply Kd.R_alloc | apply Kd.R_drewN | apply Kd.R_drew)); exact HO554.out) hb); have n1_ := Aside0.mk (Kd.R_below (by (with_reducible repeat (first | apply Kd.R_alloc | apply Kd.R_drewN | apply Kd.R_drew)); exact HO568.out) hb); have n2_ := Aside0.mk (Kd.R_below (by (with_reducible repeat (first | apply Kd.R_alloc | apply Kd.R_drewN | apply Kd.R_drew)); exact HO571.out) hb); have n3_ := Aside0.mk (Kd.R_below (by (with_reducible repeat (first | apply Kd.R_alloc | apply Kd.R_drewN | apply Kd.R_drew)); exact HO574.out) hb); have n4_ := kq_ BK549 hb; have n5_ := kq_ BK550 hb; have n6_ := kq_ BK556 hb; have n7_ := bq_ HB hb; clear HO554; clear HO568; clear HO571; clear HO574; clear BK549; clear BK550; clear BK556; clear HB; have HO554 := n0_; have HO568 := n1_; have HO571 := n2_; have HO574 := n3_; have BK549 := n4_; have BK550 := n5_; have BK556 := n6_; have HB := n7_; clear n0_ n1_ n2_ n3_ n4_ n5_ n6_ n7_; (try clear hb); (try clear hb2); (try clear hk); (try clear hi)))
     have n0_ := Aside0.mk (Kd.R_drew HO554.out)
     have n1_ := Aside0.mk (Kd.R_drew HO568.out)
     have n2_ := Aside0.mk (Kd.R_drew HO571.out)
     have n3_ := Aside0.mk (Kd.R_drew HO574.out)
     have n4_ := Aside0.mk (blk_drew BK549.out)
     have n5_ := Aside0.mk (blk_drew BK550.out)
     have n6_ := Aside0.mk (blk_drew BK556.out)
     have n7_ := Aside0.mk (below_drew1 HB.out)
     clear HO554
     clear HO568
     clear HO571
     clear HO574
     clear BK549
     clear BK550
     clear BK556
     clear HB
     have HO554 := n0_
     have HO568 := n1_
     have HO571 := n2_
     have HO574 := n3_
     have BK549 := n4_
     have BK550 := n5_
     have BK556 := n6_
     have HB := n7_
     clear n0_ n1_ n2_ n3_ n4_ n5_ n6_ n7_
     refine start_ (n := 9) (S := fun w' => w'.cell? ⟨gb556, 0, none⟩ = some (.bool t551) ∧ w'.cell? ⟨gb556, 1, none⟩ = some (.slice Ao88 t552.length co88) ∧ w'.cell? ⟨gb556, 2, none⟩ = some (.int .i64 t555)) (ds := []) #[false, false, false, false, false, false, false, false, false] (by kernel_rfl) rfl rfl ⟨(blk_cell BK556.out 0).trans rfl, (blk_cell BK556.out 1).trans rfl, (blk_cell BK556.out 2).trans rfl⟩ (fun hHeld => ?_); refine with_tabW pelorusref05_Round.tab15 pelorusref05_Round.bits15 (fun HT_ HW_ => ?_)
     generalize w99.drew = w100 at HO554 HO568 HO571 HO574 BK549 BK550 BK556 HB hHeld ⊢
     refine pure_ (i := 0) (N := some 71) (v := ?_) (a' := ?_) #[true, false, false, false, false, false, false, false, false] rfl rfl (any_of HT_.out (by kernel_rfl)) (fun _ _ _ h => h) (Or.inl ⟨by rfl, ?_⟩) ?_ ?_
     rotate_left
     ·intro w'
      go_simp
      with_reducible rfl
     rotate_left
     ·exact pt_
     refine pure_ (i := 1) (N := some 72) (v := ?_) (a' := ?_) #[true, true, false, false, false, false, false, false, false] rfl rfl (any_of HT_.out (by kernel_rfl)) (fun _ _ _ h => h) (Or.inl ⟨by rfl, ?_⟩) ?_ ?_
     rotate_left
     ·intro w'
      go_simp
      with_reducible rfl
     rotate_left
     ·exact pt_
     refine pure_ (i := 3) (N := some 74) (v := ?_) (a' := ?_) #[true, true, false, true, false, false, false, false, false] rfl rfl (any_of HT_.out (by kernel_rfl)) (fun _ _ _ h => h) (Or.inl ⟨by rfl, ?_⟩) ?_ ?_
     rotate_left
     ·intro w'
      go_simp
      with_reducible rfl
     rotate_left
     ·exact pt_
     refine pure_ (i := 5) (N := some 76) (v := ?_) (a' := ?_) #[true, true, false, true, false, true, false, false, false] rfl rfl (any_of HT_.out (by kernel_rfl)) (fun _ _ _ h => h) (Or.inl ⟨by rfl, ?_⟩) ?_ ?_
     rotate_left
     ·intro w'
      go_simp
      with_reducible rfl
     rotate_left
     ·exact pt_
     refine pure_ (i := 6) (N := some 77) (v := ?_) (a' := ?_) #[true, true, false, true, false, true, true, false, false] rfl rfl (any_of HT_.out (by kernel_rfl)) (fun _ _ _ h => h) (Or.inl ⟨by rfl, ?_⟩) ?_ ?_
     rotate_left
     ·intro w'
      go_simp
      with_reducible rfl
     rotate_left
     ·exact pt_
     refine take_ (i := 2) (N := some 73) (v := ?_) (a' := ?_) #[true, true, true, true, false, true, true, false, false] rfl rfl (take_ofW HT_.out HW_.out (by kernel_rfl)) (fun _ _ _ h => h) (Or.inl ⟨by rfl, ?_⟩) hHeld ?_ ?_
     rotate_left
     ·rintro w' ⟨s0, s1, s2⟩
      go_simp
      with_reducible rfl
     rotate_left
     ·exact pt_
     refine one_ (i := 4) (N := some 75) #[true, true, true, true, true, true, true, false, false] rfl rfl (one_of HT_.out (by kernel_rfl)) (by decide) (fun K hK => ?_)
     refine gs_ Try.func59 #[.slice Ao98 t572.length co98] ?_
     with_reducible refine (pelorusref05_word.calls k _ _ t572 t584 _ ?side1 ?side2 A77.out).mono ?_
     (case side1 => repeat (first | exact (Kd.R_reads' HO574.out).2.2 | (with_reducible refine Kd.C_alloc ?_ _) | (with_reducible refine Kd.C_drewN ?_ _) | (with_reducible refine Kd.C_drew ?_)))
     (case side2 => exact (Kd.R_reads' HO574.out).2.1)
     rintro e w' ⟨rfl, ⟨nd, rfl⟩⟩
     refine ⟨_, rfl, ?_⟩
     refine hK.out _ _ ⟨(blk_cell BK556.out 0).trans rfl, (blk_cell BK556.out 1).trans rfl, (blk_cell BK556.out 2).trans rfl⟩ (fun hHeld => ?_)
     clear hK K
     refine norm_ (a' := ?_) ?_ ?_
     rotate_left
     ·show Act.put _ (some 75) _ = _
      exact pt_
     refine one_ (i := 7) (N := some 78) #[true, true, true, true, true, true, true, true, false] rfl rfl (one_of HT_.out (by kernel_rfl)) (by decide) (fun K hK => ?_)
     refine gs_ Try.func58 #[.bool t551, .int .u64 t584, .int .i64 (wrap64 ((wrap64 (t555 + t557)) - 64)), .bool (a1 != t551)] ?_
     with_reducible refine (pelorusref05_finite.calls t551 t584 (wrap64 ((wrap64 (t555 + t557)) - 64)) (a1 != t551) t585 t586 t587 t588 _ A78.out).mono ?_
     rintro e w101 ⟨rfl, hb⟩
     refine ⟨_, rfl, ?_⟩
     have n0_ := Aside0.mk (Kd.R_below (by (with_reducible repeat (first | apply Kd.R_alloc | apply Kd.R_drewN | apply Kd.R_drew)); exact HO554.out) hb)
     have n1_ := Aside0.mk (Kd.R_below (by (with_reducible repeat (first | apply Kd.R_alloc | apply Kd.R_drewN | apply Kd.R_drew)); exact HO568.out) hb)
     have n2_ := Aside0.mk (Kd.R_below (by (with_reducible repeat (first | apply Kd.R_alloc | apply Kd.R_drewN | apply Kd.R_drew)); exact HO571.out) hb)
     have n3_ := Aside0.mk (Kd.R_below (by (with_reducible repeat (first | apply Kd.R_alloc | apply Kd.R_drewN | apply Kd.R_drew)); exact HO574.out) hb)
     have n4_ := kq_ BK549 hb
     have n5_ := kq_ BK550 hb
     have n6_ := kq_ BK556 hb
     have n7_ := bq_ HB hb
     clear HO554
     clear HO568
     clear HO571
     clear HO574
     clear BK549
     clear BK550
     clear BK556
     clear HB
     have HO554 := n0_
     have HO568 := n1_
     have HO571 := n2_
     have HO574 := n3_
     have BK549 := n4_
     have BK550 := n5_
     have BK556 := n6_
     have HB := n7_
     clear n0_ n1_ n2_ n3_ n4_ n5_ n6_ n7_
     (try clear hb)
     (try clear hb2)
     (try clear hk)
     (try clear hi)
     refine hK.out _ _ ⟨(blk_cell BK556.out 0).trans rfl, (blk_cell BK556.out 1).trans rfl, (blk_cell BK556.out 2).trans rfl⟩ (fun hHeld => ?_)
     clear hK K
     refine norm_ (a' := ?_) ?_ ?_
     rotate_left
     ·show Act.put _ (some 78) _ = _
      exact pt_
     refine one_ (i := 8) (N := none) #[true, true, true, true, true, true, true, true, true] rfl rfl (one_of HT_.out (by kernel_rfl)) (by decide) (fun K hK => ?_)
     have hs102 : w101.cell? ⟨gb550, 0, none⟩ = some (.int .i64 0) := (blk_cell BK550.out 0).trans rfl
     have hfs102 := fz_ BK550 0
     have hns102_0 := NB549_550.out
     have hns102_2 := NB556_550.out
     have hms102_0 := NB550_549.out
     have hms102_2 := NB550_556.out
     have hs103 : w101.cell? ⟨gb550, 1, none⟩ = some (.bool false) := (blk_cell BK550.out 1).trans rfl
     have hfs103 := fz_ BK550 1
     have hns103_0 := NB549_550.out
     have hns103_2 := NB556_550.out
     have hms103_0 := NB550_549.out
     have hms103_2 := NB550_556.out
     have hs104 : w101.cell? ⟨gb550, 2, none⟩ = some (.int .u64 0) := (blk_cell BK550.out 2).trans rfl
     have hfs104 := fz_ BK550 2
     have hns104_0 := NB549_550.out
     have hns104_2 := NB556_550.out
     have hms104_0 := NB550_549.out
     have hms104_2 := NB550_556.out
     have hs105 : w101.cell? ⟨gb550, 3, none⟩ = some (.int .i64 0) := (blk_cell BK550.out 3).trans rfl
     have hfs105 := fz_ BK550 3
     have hns105_0 := NB549_550.out
     have hns105_2 := NB556_550.out
     have hms105_0 := NB550_549.out
     have hms105_2 := NB550_556.out
     refine skip_ (w1 := ?_) (by rfl) rfl ?_ ?_
     rotate_left
     ·go_simp
      rfl
     refine hK.out _ _ ⟨((cell_far (p := ⟨gb550, _, none⟩) NB556_550.out _).trans (((cell_far (p := ⟨gb550, _, none⟩) NB556_550.out _).trans (((cell_far (p := ⟨gb550, _, none⟩) NB556_550.out _).trans (((cell_far (p := ⟨gb550, _, none⟩) NB556_550.out _).trans (hHeld.1)))))))), ((cell_far (p := ⟨gb550, _, none⟩) NB556_550.out _).trans (((cell_far (p := ⟨gb550, _, none⟩) NB556_550.out _).trans (((cell_far (p := ⟨gb550, _, none⟩) NB556_550.out _).trans (((cell_far (p := ⟨gb550, _, none⟩) NB556_550.out _).trans (hHeld.2.1)))))))), ((cell_far (p := ⟨gb550, _, none⟩) NB556_550.out _).trans (((cell_far (p := ⟨gb550, _, none⟩) NB556_550.out _).trans (((cell_far (p := ⟨gb550, _, none⟩) NB556_550.out _).trans (((cell_far (p := ⟨gb550, _, none⟩) NB556_550.out _).trans (hHeld.2.2))))))))⟩ (fun hHeld => ?_)
     clear hK K
     refine done_ (done_of HT_.out (by kernel_rfl)) ?_
     try go_wp2
     refine bodyPost_ret (results_cell_row rfl _ _ gb550 24 #[.int .i64 t585, .bool t586, .int .u64 t587, .int .i64 t588] (0, 0) _ rfl (by refine kb_ ?_; refine bp_ #[.int .i64 t585, .bool t586, .int .u64 t587, .int .i64 0] 3 ?_; refine bp_ #[.int .i64 t585, .bool t586, .int .u64 0, .int .i64 0] 2 ?_; refine bp_ #[.int .i64 t585, .bool false, .int .u64 0, .int .i64 0] 1 ?_; refine bp_ #[.int .i64 0, .bool false, .int .u64 0, .int .i64 0] 0 ?_; exact BK550.out) Try.underlying24 rfl (by kernel_rfl)) rfl ?_
     exact ⟨rf_, bw_ HB.out⟩
   ·rw [if_neg c41] at H
    have c41b0 : (a1 != t551) = false := by simpa using c41
    (try (have c41b1 : decide (a1 = t551) = true := by simpa using c41))
    (try (have c41b2 : (a1 == t551) = true := by simpa using c41))
    clear c41
    replace H := Option.bind_eq_some_iff.mp H
    obtain ⟨t589, A1060, H⟩ := H
    (try dsimp only at H)
    have A106 := Aside0.mk A1060
    clear A1060
    replace H := Option.bind_eq_some_iff.mp H
    obtain ⟨⟨t590, t591, t592, t593⟩, A1070, H⟩ := H
    (try dsimp only at H)
    have A107 := Aside0.mk A1070
    clear A1070
    simp only [Option.some.injEq, Prod.mk.injEq] at H
    obtain ⟨rfl, rfl, rfl, rfl⟩ := H
    go_enter Try.func40, Try.ntmps40
    try go_wp2_with (first | ((with_reducible refine gate_dst (N := 2) rfl ?_); refine bx_ 2 #[.bool a0_0, .slice A0_1 l0_1.length c0_1, .int .i64 a0_2] 50 ?_; intro gb549 hg w108 hbox hb; have n0_ := bq_ HB hb; have n1_ := Aside0.mk (hbox); have n2_ := ge_ hg HB; have n3_ := ge_ hg HB; clear HB; have HB := n0_; have BK549 := n1_; have GW549 := n2_; have GE549 := n3_; clear n0_ n1_ n2_ n3_; clear hb hbox hg) | ((with_reducible refine gate_dst (N := 4) rfl ?_); refine bx_ 4 #[.int .i64 0, .bool false, .int .u64 0, .int .i64 0] 24 ?_; intro gb550 hg w109 hbox hb; have n0_ := kq_ BK549 hb; have n1_ := bq_ HB hb; have n2_ := Aside0.mk (hbox); have n3_ := ge_ hg HB; have n4_ := ge_ hg HB; have n5_ := nb_ hg BK549; have n6_ := nc_ hg BK549; clear BK549; clear HB; have BK549 := n0_; have HB := n1_; have BK550 := n2_; have GW550 := n3_; have GE550 := n4_; have NB549_550 := n5_; have NB550_549 := n6_; clear n0_ n1_ n2_ n3_ n4_ n5_ n6_; clear hb hbox hg; have hnb110 := NB549_550.out; have hnc110 := NB550_549.out; obtain ⟨hcz111_0, hcz111_1, hcz111_2, hfz111_0, hfz111_1, hfz111_2⟩ := c3_ BK549) | ((with_reducible refine gate_callee (f := 54) rfl ?_); refine gl_ (some 14) Try.func54 #[.agg #[.bool a0_0, .slice A0_1 l0_1.length c0_1], .int .i64 a0_2] ?_; (with_reducible refine (pelorusref03_Make.calls k a0_0 _ _ l0_1 a0_2 t551 t552 t555 _ ?side1 ?side2 A3.out).mono ?_); (case side1 => repeat (first | exact (Kd.C_below HR0_1.out HB.out) | (with_reducible refine Kd.C_alloc ?_ _) | (with_reducible refine Kd.C_drewN ?_ _) | (with_reducible refine Kd.C_drew ?_))); (case side2 => exact HC0_1.out); rintro e w112 ⟨v553, rfl, ho0, hb⟩; refine ⟨_, rfl, ?_⟩; have n0_ := Aside0.mk (Kd.R_lower ho0 (below_size (bw_ HB.out))); have n1_ := kq_ BK549 hb; have n2_ := kq_ BK550 hb; have n3_ := bq_ HB hb; clear BK549; clear BK550; clear HB; have HO554 := n0_; have BK549 := n1_; have BK550 := n2_; have HB := n3_; clear n0_ n1_ n2_ n3_; (try clear hb); (try clear hb2); (try clear hk); (try clear hi); (try clear ho0)) | ((with_reducible refine gate_dst (N := 5) rfl ?_); refine bx_ 5 #[.bool false, .slice none 0 0, .int .i64 0] 50 ?_; intro gb556 hg w113 hbox hb; have n0_ := Aside0.mk (Kd.R_below (by (with_reducible repeat (first | apply Kd.R_alloc | apply Kd.R_drewN | apply Kd.R_drew)); exact HO554.out) hb); have n1_ := kq_ BK549 hb; have n2_ := kq_ BK550 hb; have n3_ := bq_ HB hb; have n4_ := Aside0.mk (hbox); have n5_ := ge_ hg HB; have n6_ := ge_ hg HB; have n7_ := nb_ hg BK549; have n8_ := nc_ hg BK549; have n9_ := nb_ hg BK550; have n10_ := nc_ hg BK550; clear HO554; clear BK549; clear BK550; clear HB; have HO554 := n0_; have BK549 := n1_; have BK550 := n2_; have HB := n3_; have BK556 := n4_; have GW556 := n5_; have GE556 := n6_; have NB549_556 := n7_; have NB556_549 := n8_; have NB550_556 := n9_; have NB556_550 := n10_; clear n0_ n1_ n2_ n3_ n4_ n5_ n6_ n7_ n8_ n9_ n10_; clear hb hbox hg; have hnb114 := NB556_549.out; have hnc114 := NB549_556.out; have hnb115 := NB556_550.out; have hnc115 := NB550_556.out; obtain ⟨hcz116_0, hcz116_1, hcz116_2, hfz116_0, hfz116_1, hfz116_2⟩ := c3_ BK556; obtain ⟨Ao117, co117, eo117⟩ := Kd.R_slice HO554.out; subst eo117) | ((with_reducible refine gate_callee (f := 57) rfl ?_); refine gl_ (some 29) Try.func57 #[.slice Ao117 t552.length co117] ?_; (with_reducible refine (pelorusref01_Len.calls k _ _ t552 t557 _ ?side1 ?side2 A16.out).mono ?_); (case side1 => refine (Kd.R_reads' (e := 68) (base := w.heap.size) (ok := fun k_ => True) (n := t552.length) (c := co117) ?_).2.2; exact (by (with_reducible repeat (first | apply Kd.R_alloc | apply Kd.R_drewN | apply Kd.R_drew)); exact (Kd.R_mono (Kd.R_far (p := ⟨gb556, 2, none⟩) (Kd.R_far (p := ⟨gb556, 1, none⟩) (Kd.R_far (p := ⟨gb556, 0, none⟩) (Kd.R_types HO554.out BK556.out (by decide)) (fun _ hk => hk.2) (.bool t551)) (fun _ hk => hk.2) (.slice Ao117 t552.length co117)) (fun _ hk => hk.2) (.int .i64 t555)) (fun _ h_ => h_.1)))); (case side2 => exact (Kd.R_reads' HO554.out).2.1); rintro e w118 ⟨rfl, hb⟩; refine ⟨_, rfl, ?_⟩; have n0_ := Aside0.mk (Kd.R_below (by (with_reducible repeat (first | apply Kd.R_alloc | apply Kd.R_drewN | apply Kd.R_drew)); exact (Kd.R_mono (Kd.R_far (p := ⟨gb556, 2, none⟩) (Kd.R_far (p := ⟨gb556, 1, none⟩) (Kd.R_far (p := ⟨gb556, 0, none⟩) (Kd.R_types HO554.out BK556.out (by decide)) (fun _ hk => hk.2) (.bool t551)) (fun _ hk => hk.2) (.slice Ao117 t552.length co117)) (fun _ hk => hk.2) (.int .i64 t555)) (fun _ h_ => h_.1))) hb); have n1_ := Aside0.mk (blk_below (g := gb549) (o := .cells #[.bool a0_0, .slice A0_1 l0_1.length c0_1, .int .i64 a0_2] 50 (0, 0)) (by refine kb_ ?_; refine bf_ NB549_556 ?_; refine bf_ NB549_556 ?_; refine bf_ NB549_556 ?_; exact BK549.out) hb); have n2_ := Aside0.mk (blk_below (g := gb550) (o := .cells #[.int .i64 0, .bool false, .int .u64 0, .int .i64 0] 24 (0, 0)) (by refine kb_ ?_; refine bf_ NB550_556 ?_; refine bf_ NB550_556 ?_; refine bf_ NB550_556 ?_; exact BK550.out) hb); have n3_ := Aside0.mk (blk_below (g := gb556) (o := .cells #[.bool t551, .slice Ao117 t552.length co117, .int .i64 t555] 50 (0, 0)) (by refine kb_ ?_; refine bp_ #[.bool t551, .slice Ao117 t552.length co117, .int .i64 0] 2 ?_; refine bp_ #[.bool t551, .slice none 0 0, .int .i64 0] 1 ?_; refine bp_ #[.bool false, .slice none 0 0, .int .i64 0] 0 ?_; exact BK556.out) hb); have n4_ := bq_ HB hb; clear HO554; clear BK549; clear BK550; clear BK556; clear HB; have HO554 := n0_; have BK549 := n1_; have BK550 := n2_; have BK556 := n3_; have HB := n4_; clear n0_ n1_ n2_ n3_ n4_; (try clear hb); (try clear hb2); (try clear hk); (try clear hi); obtain ⟨hcz119_0, hcz119_1, hcz119_2, hfz119_0, hfz119_1, hfz119_2⟩ := c3_ BK556) | ((with_reducible refine gate_callee (f := 61) rfl ?_); refine gl_ (some 54) Try.func61 #[.slice Ao117 t552.length co117, .int .i64 (wrap64 (t557 - 64))] ?_; (with_reducible refine (pelorusref01_Shr.calls k _ _ t552 (wrap64 (t557 - 64)) t566 _ ?side1 ?side2 A40.out).mono ?_); (case side1 => repeat (first | exact (Kd.R_reads' HO554.out).2.2 | (with_reducible refine Kd.C_alloc ?_ _) | (with_reducible refine Kd.C_drewN ?_ _) | (with_reducible refine Kd.C_drew ?_))); (case side2 => exact (Kd.R_reads' HO554.out).2.1); rintro e w120 ⟨v567, rfl, ho0, hb⟩; refine ⟨_, rfl, ?_⟩; have n0_ := Aside0.mk (Kd.R_elder' (by (with_reducible repeat (first | apply Kd.R_alloc | apply Kd.R_drewN | apply Kd.R_drew)); exact HO554.out) (Kd.R_base ho0) hb); have n1_ := Aside0.mk (Kd.R_lower (Kd.R_new' ho0 (Kd.R_lt (by (with_reducible repeat (first | apply Kd.R_alloc | apply Kd.R_drewN | apply Kd.R_drew)); exact HO554.out))) (below_size (bw_ HB.out))); have n2_ := kq_ BK549 hb; have n3_ := kq_ BK550 hb; have n4_ := kq_ BK556 hb; have n5_ := bq_ HB hb; clear HO554; clear BK549; clear BK550; clear BK556; clear HB; have HO554 := n0_; have HO568 := n1_; have BK549 := n2_; have BK550 := n3_; have BK556 := n4_; have HB := n5_; clear n0_ n1_ n2_ n3_ n4_ n5_; (try clear hb); (try clear hb2); (try clear hk); (try clear hi); (try clear ho0); obtain ⟨hcz121_0, hcz121_1, hcz121_2, hfz121_0, hfz121_1, hfz121_2⟩ := c3_ BK556))
    have n0_ := Aside0.mk (Kd.R_drew HO554.out)
    have n1_ := Aside0.mk (Kd.R_drew HO568.out)
    have n2_ := Aside0.mk (blk_drew BK549.out)
    have n3_ := Aside0.mk (blk_drew BK550.out)
    have n4_ := Aside0.mk (blk_drew BK556.out)
    have n5_ := Aside0.mk (below_drew1 HB.out)
    clear HO554
    clear HO568
    clear BK549
    clear BK550
    clear BK556
    clear HB
    have HO554 := n0_
    have HO568 := n1_
    have BK549 := n2_
    have BK550 := n3_
    have BK556 := n4_
    have HB := n5_
    clear n0_ n1_ n2_ n3_ n4_ n5_
    obtain ⟨Ao123, co123, eo123⟩ := Kd.R_slice HO568.out
    (first | subst eo123 | (injection eo123 with f1_ f2_ f3_; have f4_ := f1_.symm; have f5_ := f3_.symm; clear f1_ f2_ f3_; subst f4_; subst f5_))
    refine start_ (n := 9) (S := fun w' => w'.cell? ⟨gb556, 0, none⟩ = some (.bool t551) ∧ w'.cell? ⟨gb556, 1, none⟩ = some (.slice Ao117 t552.length co117) ∧ w'.cell? ⟨gb556, 2, none⟩ = some (.int .i64 t555)) (ds := []) #[false, false, false, false, false, false, false, false, false] (by kernel_rfl) rfl rfl ⟨(blk_cell BK556.out 0).trans rfl, (blk_cell BK556.out 1).trans rfl, (blk_cell BK556.out 2).trans rfl⟩ (fun hHeld => ?_); refine with_tabW pelorusref05_Round.tab15 pelorusref05_Round.bits15 (fun HT_ HW_ => ?_)
    generalize w120.drew = w122 at HO554 HO568 BK549 BK550 BK556 HB hHeld ⊢
    refine pure_ (i := 0) (N := some 71) (v := ?_) (a' := ?_) #[true, false, false, false, false, false, false, false, false] rfl rfl (any_of HT_.out (by kernel_rfl)) (fun _ _ _ h => h) (Or.inl ⟨by rfl, ?_⟩) ?_ ?_
    rotate_left
    ·intro w'
     go_simp
     with_reducible rfl
    rotate_left
    ·exact pt_
    refine pure_ (i := 1) (N := some 72) (v := ?_) (a' := ?_) #[true, true, false, false, false, false, false, false, false] rfl rfl (any_of HT_.out (by kernel_rfl)) (fun _ _ _ h => h) (Or.inl ⟨by rfl, ?_⟩) ?_ ?_
    rotate_left
    ·intro w'
     go_simp
     with_reducible rfl
    rotate_left
    ·exact pt_
    refine pure_ (i := 3) (N := some 74) (v := ?_) (a' := ?_) #[true, true, false, true, false, false, false, false, false] rfl rfl (any_of HT_.out (by kernel_rfl)) (fun _ _ _ h => h) (Or.inl ⟨by rfl, ?_⟩) ?_ ?_
    rotate_left
    ·intro w'
     go_simp
     with_reducible rfl
    rotate_left
    ·exact pt_
    refine pure_ (i := 5) (N := some 76) (v := ?_) (a' := ?_) #[true, true, false, true, false, true, false, false, false] rfl rfl (any_of HT_.out (by kernel_rfl)) (fun _ _ _ h => h) (Or.inl ⟨by rfl, ?_⟩) ?_ ?_
    rotate_left
    ·intro w'
     go_simp
     with_reducible rfl
    rotate_left
    ·exact pt_
    refine pure_ (i := 6) (N := some 77) (v := ?_) (a' := ?_) #[true, true, false, true, false, true, true, false, false] rfl rfl (any_of HT_.out (by kernel_rfl)) (fun _ _ _ h => h) (Or.inl ⟨by rfl, ?_⟩) ?_ ?_
    rotate_left
    ·intro w'
     go_simp
     with_reducible rfl
    rotate_left
    ·exact pt_
    refine take_ (i := 2) (N := some 73) (v := ?_) (a' := ?_) #[true, true, true, true, false, true, true, false, false] rfl rfl (take_ofW HT_.out HW_.out (by kernel_rfl)) (fun _ _ _ h => h) (Or.inl ⟨by rfl, ?_⟩) hHeld ?_ ?_
    rotate_left
    ·rintro w' ⟨s0, s1, s2⟩
     go_simp
     with_reducible rfl
    rotate_left
    ·exact pt_
    refine one_ (i := 4) (N := some 75) #[true, true, true, true, true, true, true, false, false] rfl rfl (one_of HT_.out (by kernel_rfl)) (by decide) (fun K hK => ?_)
    refine gs_ Try.func59 #[.slice Ao123 t566.length co123] ?_
    with_reducible refine (pelorusref05_word.calls k _ _ t566 t589 _ ?side1 ?side2 A106.out).mono ?_
    (case side1 => repeat (first | exact (Kd.R_reads' HO568.out).2.2 | (with_reducible refine Kd.C_alloc ?_ _) | (with_reducible refine Kd.C_drewN ?_ _) | (with_reducible refine Kd.C_drew ?_)))
    (case side2 => exact (Kd.R_reads' HO568.out).2.1)
    rintro e w' ⟨rfl, ⟨nd, rfl⟩⟩
    refine ⟨_, rfl, ?_⟩
    refine hK.out _ _ ⟨(blk_cell BK556.out 0).trans rfl, (blk_cell BK556.out 1).trans rfl, (blk_cell BK556.out 2).trans rfl⟩ (fun hHeld => ?_)
    clear hK K
    refine norm_ (a' := ?_) ?_ ?_
    rotate_left
    ·show Act.put _ (some 75) _ = _
     exact pt_
    refine one_ (i := 7) (N := some 78) #[true, true, true, true, true, true, true, true, false] rfl rfl (one_of HT_.out (by kernel_rfl)) (by decide) (fun K hK => ?_)
    refine gs_ Try.func58 #[.bool t551, .int .u64 t589, .int .i64 (wrap64 ((wrap64 (t555 + t557)) - 64)), .bool (a1 != t551)] ?_
    with_reducible refine (pelorusref05_finite.calls t551 t589 (wrap64 ((wrap64 (t555 + t557)) - 64)) (a1 != t551) t590 t591 t592 t593 _ A107.out).mono ?_
    rintro e w124 ⟨rfl, hb⟩
    refine ⟨_, rfl, ?_⟩
    have n0_ := Aside0.mk (Kd.R_below (by (with_reducible repeat (first | apply Kd.R_alloc | apply Kd.R_drewN | apply Kd.R_drew)); exact HO554.out) hb)
    have n1_ := Aside0.mk (Kd.R_below (by (with_reducible repeat (first | apply Kd.R_alloc | apply Kd.R_drewN | apply Kd.R_drew)); exact HO568.out) hb)
    have n2_ := kq_ BK549 hb
    have n3_ := kq_ BK550 hb
    have n4_ := kq_ BK556 hb
    have n5_ := bq_ HB hb
    clear HO554
    clear HO568
    clear BK549
    clear BK550
    clear BK556
    clear HB
    have HO554 := n0_
    have HO568 := n1_
    have BK549 := n2_
    have BK550 := n3_
    have BK556 := n4_
    have HB := n5_
    clear n0_ n1_ n2_ n3_ n4_ n5_
    (try clear hb)
    (try clear hb2)
    (try clear hk)
    (try clear hi)
    refine hK.out _ _ ⟨(blk_cell BK556.out 0).trans rfl, (blk_cell BK556.out 1).trans rfl, (blk_cell BK556.out 2).trans rfl⟩ (fun hHeld => ?_)
    clear hK K
    refine norm_ (a' := ?_) ?_ ?_
    rotate_left
    ·show Act.put _ (some 78) _ = _
     exact pt_
    refine one_ (i := 8) (N := none) #[true, true, true, true, true, true, true, true, true] rfl rfl (one_of HT_.out (by kernel_rfl)) (by decide) (fun K hK => ?_)
    have hs125 : w124.cell? ⟨gb550, 0, none⟩ = some (.int .i64 0) := (blk_cell BK550.out 0).trans rfl
    have hfs125 := fz_ BK550 0
    have hns125_0 := NB549_550.out
    have hns125_2 := NB556_550.out
    have hms125_0 := NB550_549.out
    have hms125_2 := NB550_556.out
    have hs126 : w124.cell? ⟨gb550, 1, none⟩ = some (.bool false) := (blk_cell BK550.out 1).trans rfl
    have hfs126 := fz_ BK550 1
    have hns126_0 := NB549_550.out
    have hns126_2 := NB556_550.out
    have hms126_0 := NB550_549.out
    have hms126_2 := NB550_556.out
    have hs127 : w124.cell? ⟨gb550, 2, none⟩ = some (.int .u64 0) := (blk_cell BK550.out 2).trans rfl
    have hfs127 := fz_ BK550 2
    have hns127_0 := NB549_550.out
    have hns127_2 := NB556_550.out
    have hms127_0 := NB550_549.out
    have hms127_2 := NB550_556.out
    have hs128 : w124.cell? ⟨gb550, 3, none⟩ = some (.int .i64 0) := (blk_cell BK550.out 3).trans rfl
    have hfs128 := fz_ BK550 3
    have hns128_0 := NB549_550.out
    have hns128_2 := NB556_550.out
    have hms128_0 := NB550_549.out
    have hms128_2 := NB550_556.out
    refine skip_ (w1 := ?_) (by rfl) rfl ?_ ?_
    rotate_left
    ·go_simp
     rfl
    refine hK.out _ _ ⟨((cell_far (p := ⟨gb550, _, none⟩) NB556_550.out _).trans (((cell_far (p := ⟨gb550, _, none⟩) NB556_550.out _).trans (((cell_far (p := ⟨gb550, _, none⟩) NB556_550.out _).trans (((cell_far (p := ⟨gb550, _, none⟩) NB556_550.out _).trans (hHeld.1)))))))), ((cell_far (p := ⟨gb550, _, none⟩) NB556_550.out _).trans (((cell_far (p := ⟨gb550, _, none⟩) NB556_550.out _).trans (((cell_far (p := ⟨gb550, _, none⟩) NB556_550.out _).trans (((cell_far (p := ⟨gb550, _, none⟩) NB556_550.out _).trans (hHeld.2.1)))))))), ((cell_far (p := ⟨gb550, _, none⟩) NB556_550.out _).trans (((cell_far (p := ⟨gb550, _, none⟩) NB556_550.out _).trans (((cell_far (p := ⟨gb550, _, none⟩) NB556_550.out _).trans (((cell_far (p := ⟨gb550, _, none⟩) NB556_550.out _).trans (hHeld.2.2))))))))⟩ (fun hHeld => ?_)
    clear hK K
    refine done_ (done_of HT_.out (by kernel_rfl)) ?_
    try go_wp2
    refine bodyPost_ret (results_cell_row rfl _ _ gb550 24 #[.int .i64 t590, .bool t591, .int .u64 t592, .int .i64 t593] (0, 0) _ rfl (by refine kb_ ?_; refine bp_ #[.int .i64 t590, .bool t591, .int .u64 t592, .int .i64 0] 3 ?_; refine bp_ #[.int .i64 t590, .bool t591, .int .u64 0, .int .i64 0] 2 ?_; refine bp_ #[.int .i64 t590, .bool false, .int .u64 0, .int .i64 0] 1 ?_; refine bp_ #[.int .i64 0, .bool false, .int .u64 0, .int .i64 0] 0 ?_; exact BK550.out) Try.underlying24 rfl (by kernel_rfl)) rfl ?_
    exact ⟨rf_, bw_ HB.out⟩

end Go.Proofs.Ythlhogcnfaiphaa.PA
