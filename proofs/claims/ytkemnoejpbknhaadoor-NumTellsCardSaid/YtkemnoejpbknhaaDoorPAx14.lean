-- Laid by this work's own program; Lean checks it.
import Derived.Test.YtkemnoejpbknhaaDoorPAx0
import Derived.Test.YtkemnoejpbknhaaDoorPAx2
import Derived.Test.YtkemnoejpbknhaaDoorPAx4
import Derived.Test.YtkemnoejpbknhaaDoorPAx5
import Derived.Test.YtkemnoejpbknhaaDoorPAx8
namespace Go.Proofs.YtkemnoejpbknhaaDoor.PA
open Go.RowKit Go.Proofs.YtkemnoejpbknhaaDoorW.PrintWords Go.Proofs.YtkemnoejpbknhaaDoorW.PrintLast Go.Proofs.YtkemnoejpbknhaaDoorW.PrintMore
attribute [local go_sem] max2_int min2_int max_two min_two max_three min_three max_four min_four   -- for this text's walks alone
set_option linter.unusedVariables false
set_option linter.unusedSimpArgs false

attribute [local go_sem ↓ high] isSome_set_
/-! ### num_Next: function 24 -/
set_option maxHeartbeats 8000000 in
set_option maxRecDepth 100000 in
theorem num_Next.calls (k : Nat) (a0_0 : Int) (a0_1 : Bool) (a0_2 : Int) (a0_3 : Int) (a1 : Bool) (r1 : Int) (r2 : Bool) (r3 : Int) (r4 : Int) (w : World) (h : num_Next.f k a0_0 a0_1 a0_2 a0_3 a1 = some (r1, r2, r3, r4)) :
  Calls Tryd.prog 24 #[.agg #[.int .i64 a0_0, .bool a0_1, .int .u64 a0_2, .int .i64 a0_3], .bool a1] w fun e w' => e = .returned (.agg #[.int .i64 r1, .bool r2, .int .u64 r3, .int .i64 r4]) ∧ Below w.heap.size w w' := by
 have hu30 := Tryd.underlying30
 have HB := Aside0.mk (Below.refl w.heap.size w)
 have H : ((num_fair.f a0_0 a0_1 a0_2 a0_3).bind fun bt676 => (if bt676.1 = 0 then ((num_tiny.f (!a1)).bind fun bt680 => (some (bt680.1, bt680.2.1, bt680.2.2.1, bt680.2.2.2))) else (if bt676.1 = 2 then (num_Next.j0 k a1 (bt676.2.1 == a1) bt676.1 bt676.2.1 bt676.2.2.1 bt676.2.2.2) else (num_Next.j0 k a1 false bt676.1 bt676.2.1 bt676.2.2.1 bt676.2.2.2)))) = some (r1, r2, r3, r4) := h
 clear h
 replace H := Option.bind_eq_some_iff.mp H
 obtain ⟨⟨t676, t677, t678, t679⟩, A30, H⟩ := H
 (try dsimp only at H)
 have A3 := Aside0.mk A30
 clear A30
 by_cases c4 : t676 = 0
 ·rw [if_pos c4] at H
  have c4b0 : (t676 == 0) = true := beq_iff_eq.mpr c4
  have c4b1 : (t676 != 0) = false := bne_eq_false_iff_eq.mpr c4
  clear c4
  replace H := Option.bind_eq_some_iff.mp H
  obtain ⟨⟨t680, t681, t682, t683⟩, A50, H⟩ := H
  (try dsimp only at H)
  have A5 := Aside0.mk A50
  clear A50
  simp only [Option.some.injEq, Prod.mk.injEq] at H
  obtain ⟨rfl, rfl, rfl, rfl⟩ := H
  go_enter Tryd.func24, Tryd.ntmps24
  go_wp2_with (first | ((with_reducible refine gate_dst (N := 2) rfl ?_); refine bx_ 2 #[.int .i64 a0_0, .bool a0_1, .int .u64 a0_2, .int .i64 a0_3] 30 ?_; intro gb674 hg w6 hbox hb; have BK674 := Aside0.mk (hbox); have GW674 := ge_ hg HB; have GE674 := ge_ hg HB; replace HB := bq_ HB hb; clear hb hbox hg) | ((with_reducible refine gate_dst (N := 4) rfl ?_); refine bx_ 4 #[.int .i64 0, .bool false, .int .u64 0, .int .i64 0] 30 ?_; intro gb675 hg w7 hbox hb; have BK675 := Aside0.mk (hbox); have GW675 := ge_ hg HB; have GE675 := ge_ hg HB; have NB674_675 := nb_ hg BK674; have NB675_674 := nc_ hg BK674; replace BK674 := kq_ BK674 hb; replace HB := bq_ HB hb; clear hb hbox hg; have hnb8 := NB674_675.out; have hnc8 := NB675_674.out; obtain ⟨hcz9_0, hcz9_1, hcz9_2, hcz9_3, hfz9_0, hfz9_1, hfz9_2, hfz9_3⟩ := c4_ BK674) | ((with_reducible refine gate_callee (f := 52) rfl ?_); refine gl_ (some 6) Tryd.func52 #[.agg #[.int .i64 a0_0, .bool a0_1, .int .u64 a0_2, .int .i64 a0_3]] ?_; (with_reducible refine (num_fair.calls a0_0 a0_1 a0_2 a0_3 t676 t677 t678 t679 _ A3.out).mono ?_); rintro e w10 ⟨rfl, hb⟩; refine ⟨_, rfl, ?_⟩; replace BK674 := kq_ BK674 hb; replace BK675 := kq_ BK675 hb; replace HB := bq_ HB hb; (try clear hb); (try clear hb2); (try clear hk); (try clear hi); obtain ⟨hcz11_0, hcz11_1, hcz11_2, hcz11_3, hfz11_0, hfz11_1, hfz11_2, hfz11_3⟩ := c4_ BK674) | ((with_reducible refine gate_callee (f := 56) rfl ?_); refine gl_ (some 13) Tryd.func56 #[.bool (!a1)] ?_; (with_reducible refine (num_tiny.calls (!a1) t680 t681 t682 t683 _ A5.out).mono ?_); rintro e w12 ⟨rfl, hb⟩; refine ⟨_, rfl, ?_⟩; have n0_ := Aside0.mk (blk_below (g := gb674) (o := .cells #[.int .i64 t676, .bool t677, .int .u64 t678, .int .i64 t679] 30 (0, 0)) (by refine kb_ ?_; refine bp_ #[.int .i64 t676, .bool t677, .int .u64 t678, .int .i64 a0_3] 3 ?_; refine bp_ #[.int .i64 t676, .bool t677, .int .u64 a0_2, .int .i64 a0_3] 2 ?_; refine bp_ #[.int .i64 t676, .bool a0_1, .int .u64 a0_2, .int .i64 a0_3] 1 ?_; refine bp_ #[.int .i64 a0_0, .bool a0_1, .int .u64 a0_2, .int .i64 a0_3] 0 ?_; exact BK674.out) hb); have n1_ := Aside0.mk (blk_below (g := gb675) (o := .cells #[.int .i64 0, .bool false, .int .u64 0, .int .i64 0] 30 (0, 0)) (by refine kb_ ?_; refine bf_ NB675_674 ?_; refine bf_ NB675_674 ?_; refine bf_ NB675_674 ?_; refine bf_ NB675_674 ?_; exact BK675.out) hb); have n2_ := bq_ HB hb; clear BK674; clear BK675; clear HB; have BK674 := n0_; have BK675 := n1_; have HB := n2_; clear n0_ n1_ n2_; (try clear hb); (try clear hb2); (try clear hk); (try clear hi); obtain ⟨hcz13_0, hcz13_1, hcz13_2, hcz13_3, hfz13_0, hfz13_1, hfz13_2, hfz13_3⟩ := c4_ BK675))
  refine bodyPost_ret (results_cell_row rfl _ _ gb675 30 #[.int .i64 t680, .bool t681, .int .u64 t682, .int .i64 t683] (0, 0) _ rfl (by refine kb_ ?_; refine bp_ #[.int .i64 t680, .bool t681, .int .u64 t682, .int .i64 0] 3 ?_; refine bp_ #[.int .i64 t680, .bool t681, .int .u64 0, .int .i64 0] 2 ?_; refine bp_ #[.int .i64 t680, .bool false, .int .u64 0, .int .i64 0] 1 ?_; refine bp_ #[.int .i64 0, .bool false, .int .u64 0, .int .i64 0] 0 ?_; exact BK675.out) Tryd.underlying30 rfl (by kernel_rfl)) rfl ?_
  exact ⟨rf_, bw_ HB.out⟩
 ·rw [if_neg c4] at H
  have c4b0 : (t676 == 0) = false := beq_eq_false_iff_ne.mpr c4
  have c4b1 : (t676 != 0) = true := bne_iff_ne.mpr c4
  have HC14 := Aside0.mk H
  clear H
  go_enter Tryd.func24, Tryd.ntmps24
  go_upto_region 4 with (first | ((with_reducible refine gate_dst (N := 2) rfl ?_); refine bx_ 2 #[.int .i64 a0_0, .bool a0_1, .int .u64 a0_2, .int .i64 a0_3] 30 ?_; intro gb674 hg w15 hbox hb; have BK674 := Aside0.mk (hbox); have GW674 := ge_ hg HB; have GE674 := ge_ hg HB; replace HB := bq_ HB hb; clear hb hbox hg) | ((with_reducible refine gate_dst (N := 4) rfl ?_); refine bx_ 4 #[.int .i64 0, .bool false, .int .u64 0, .int .i64 0] 30 ?_; intro gb675 hg w16 hbox hb; have BK675 := Aside0.mk (hbox); have GW675 := ge_ hg HB; have GE675 := ge_ hg HB; have NB674_675 := nb_ hg BK674; have NB675_674 := nc_ hg BK674; replace BK674 := kq_ BK674 hb; replace HB := bq_ HB hb; clear hb hbox hg; have hnb17 := NB674_675.out; have hnc17 := NB675_674.out; obtain ⟨hcz18_0, hcz18_1, hcz18_2, hcz18_3, hfz18_0, hfz18_1, hfz18_2, hfz18_3⟩ := c4_ BK674) | ((with_reducible refine gate_callee (f := 52) rfl ?_); refine gl_ (some 6) Tryd.func52 #[.agg #[.int .i64 a0_0, .bool a0_1, .int .u64 a0_2, .int .i64 a0_3]] ?_; (with_reducible refine (num_fair.calls a0_0 a0_1 a0_2 a0_3 t676 t677 t678 t679 _ A3.out).mono ?_); rintro e w19 ⟨rfl, hb⟩; refine ⟨_, rfl, ?_⟩; replace BK674 := kq_ BK674 hb; replace BK675 := kq_ BK675 hb; replace HB := bq_ HB hb; (try clear hb); (try clear hb2); (try clear hk); (try clear hi); obtain ⟨hcz20_0, hcz20_1, hcz20_2, hcz20_3, hfz20_0, hfz20_1, hfz20_2, hfz20_3⟩ := c4_ BK674))
  (try simp only [Act.put, List.setIfInBounds_toArray, List.set_cons_zero, List.set_cons_succ])
  go_cut [14] (fun v14 wc => ∃ (kq : Nat) (x14_13 : Bool), v14 = .bool x14_13 ∧ Aside0 (num_Next.j0 kq a1 x14_13 t676 t677 t678 t679 = some (r1, r2, r3, r4)) ∧ Aside0 (kq ≤ k) ∧ Aside0 (wc.heap[gb674]? = some (.cells #[.int .i64 t676, .bool t677, .int .u64 t678, .int .i64 t679] 30 (0, 0))) ∧ Aside0 (wc.heap[gb675]? = some (.cells #[.int .i64 0, .bool false, .int .u64 0, .int .i64 0] 30 (0, 0))) ∧ Aside0 (Below w.heap.size w wc))
  case first =>
   have H := HC14.out
   clear HC14
   by_cases c21 : t676 = 2
   ·rw [if_pos c21] at H
    have c21b0 : (t676 == 2) = true := beq_iff_eq.mpr c21
    have c21b1 : (t676 != 2) = false := bne_eq_false_iff_eq.mpr c21
    clear c21
    (first | rw [c21b0] | (simp only [i64_w, i32_w]; rw [c21b0]) | skip)
    have H' := Aside0.mk H
    clear H
    have hnb22 := NB674_675.out
    have hnc22 := NB675_674.out
    obtain ⟨hcz23_0, hcz23_1, hcz23_2, hcz23_3, hfz23_0, hfz23_1, hfz23_2, hfz23_3⟩ := c4_ BK674
    go_wp2
    go_meet
    case rel => exact ⟨_, ((t677 == a1)), (by first | rfl | (simp; done) | (simp [*]; done)), H', ⟨by first | omega | exact Nat.le_refl _⟩, ⟨by refine kb_ ?_; refine bp_ #[.int .i64 t676, .bool t677, .int .u64 t678, .int .i64 a0_3] 3 ?_; refine bp_ #[.int .i64 t676, .bool t677, .int .u64 a0_2, .int .i64 a0_3] 2 ?_; refine bp_ #[.int .i64 t676, .bool a0_1, .int .u64 a0_2, .int .i64 a0_3] 1 ?_; refine bp_ #[.int .i64 a0_0, .bool a0_1, .int .u64 a0_2, .int .i64 a0_3] 0 ?_; exact BK674.out⟩, ⟨by refine kb_ ?_; refine bf_ NB675_674 ?_; refine bf_ NB675_674 ?_; refine bf_ NB675_674 ?_; refine bf_ NB675_674 ?_; exact BK675.out⟩, ⟨bw_ HB.out⟩⟩
   ·rw [if_neg c21] at H
    have c21b0 : (t676 == 2) = false := beq_eq_false_iff_ne.mpr c21
    have c21b1 : (t676 != 2) = true := bne_iff_ne.mpr c21
    (first | rw [c21b0] | (simp only [i64_w, i32_w]; rw [c21b0]) | skip)
    have H' := Aside0.mk H
    clear H
    have hnb24 := NB674_675.out
    have hnc24 := NB675_674.out
    obtain ⟨hcz25_0, hcz25_1, hcz25_2, hcz25_3, hfz25_0, hfz25_1, hfz25_2, hfz25_3⟩ := c4_ BK674
    go_wp2
    go_meet
    case rel => exact ⟨_, (false), (by first | rfl | (simp; done) | (simp [*]; done)), H', ⟨by first | omega | exact Nat.le_refl _⟩, ⟨by refine kb_ ?_; refine bp_ #[.int .i64 t676, .bool t677, .int .u64 t678, .int .i64 a0_3] 3 ?_; refine bp_ #[.int .i64 t676, .bool t677, .int .u64 a0_2, .int .i64 a0_3] 2 ?_; refine bp_ #[.int .i64 t676, .bool a0_1, .int .u64 a0_2, .int .i64 a0_3] 1 ?_; refine bp_ #[.int .i64 a0_0, .bool a0_1, .int .u64 a0_2, .int .i64 a0_3] 0 ?_; exact BK674.out⟩, ⟨by refine kb_ ?_; refine bf_ NB675_674 ?_; refine bf_ NB675_674 ?_; refine bf_ NB675_674 ?_; refine bf_ NB675_674 ?_; exact BK675.out⟩, ⟨bw_ HB.out⟩⟩
  case rest =>
   clear HC14
   try clear c1
   try clear c2
   try clear p2
   try clear c4
   try clear c4b0
   try clear c4b1
   try clear c5
   try clear c8
   try clear c17
   try clear c21
   try clear c21b0
   try clear c21b1
   try clear c22
   try clear c24
   try clear hcz11_0 hcz11_1 hcz11_2 hcz11_3
   try clear hcz13_0 hcz13_1 hcz13_2 hcz13_3
   try clear hcz18_0 hcz18_1 hcz18_2 hcz18_3
   try clear hcz20_0 hcz20_1 hcz20_2 hcz20_3
   try clear hcz23_0 hcz23_1 hcz23_2 hcz23_3
   try clear hcz25_0 hcz25_1 hcz25_2 hcz25_3
   try clear hcz9_0 hcz9_1 hcz9_2 hcz9_3
   try clear hfz11_0 hfz11_1 hfz11_2 hfz11_3
   try clear hfz13_0 hfz13_1 hfz13_2 hfz13_3
   try clear hfz18_0 hfz18_1 hfz18_2 hfz18_3
   try clear hfz20_0 hfz20_1 hfz20_2 hfz20_3
   try clear hfz23_0 hfz23_1 hfz23_2 hfz23_3
   try clear hfz25_0 hfz25_1 hfz25_2 hfz25_3
   try clear hfz9_0 hfz9_1 hfz9_2 hfz9_3
   obtain ⟨kq, x14_13, rfl, HA, HJ13, BK674, BK675, HB⟩ := hcut
   cases kq with
   | zero => exact absurd HA.out (by simp [num_Next.j0])
   | succ kj13 =>
    have H := HA.out
    clear HA
    simp only [num_Next.j0] at H
    by_cases c26 : x14_13 = true
    ·subst c26
     have H1 : ((num_huge.f t677).bind fun bt684 => (some (bt684.1, bt684.2.1, bt684.2.2.1, bt684.2.2.2))) = some (r1, r2, r3, r4) := by rw [if_pos rfl] at H; exact H
     clear H
     have H := H1
     clear H1
     replace H := Option.bind_eq_some_iff.mp H
     obtain ⟨⟨t684, t685, t686, t687⟩, A270, H⟩ := H
     (try dsimp only at H)
     have A27 := Aside0.mk A270
     clear A270
     simp only [Option.some.injEq, Prod.mk.injEq] at H
     obtain ⟨rfl, rfl, rfl, rfl⟩ := H
     have hnb28 := NB674_675.out
     have hnc28 := NB675_674.out
     obtain ⟨hcz29_0, hcz29_1, hcz29_2, hcz29_3, hfz29_0, hfz29_1, hfz29_2, hfz29_3⟩ := c4_ BK674
     go_wp2_with (first | ((with_reducible refine gate_callee (f := 57) rfl ?_); refine gl_ (some 26) Tryd.func57 #[.bool t677] ?_; (with_reducible refine (num_huge.calls t677 t684 t685 t686 t687 _ A27.out).mono ?_); rintro e w30 ⟨rfl, hb⟩; refine ⟨_, rfl, ?_⟩; replace BK674 := kq_ BK674 hb; replace BK675 := kq_ BK675 hb; replace HB := bq_ HB hb; (try clear hb); (try clear hb2); (try clear hk); (try clear hi); obtain ⟨hcz31_0, hcz31_1, hcz31_2, hcz31_3, hfz31_0, hfz31_1, hfz31_2, hfz31_3⟩ := c4_ BK675))
     refine bodyPost_ret (results_cell_row rfl _ _ gb675 30 #[.int .i64 t684, .bool t685, .int .u64 t686, .int .i64 t687] (0, 0) _ rfl (by refine kb_ ?_; refine bp_ #[.int .i64 t684, .bool t685, .int .u64 t686, .int .i64 0] 3 ?_; refine bp_ #[.int .i64 t684, .bool t685, .int .u64 0, .int .i64 0] 2 ?_; refine bp_ #[.int .i64 t684, .bool false, .int .u64 0, .int .i64 0] 1 ?_; refine bp_ #[.int .i64 0, .bool false, .int .u64 0, .int .i64 0] 0 ?_; exact BK675.out) Tryd.underlying30 rfl (by kernel_rfl)) rfl ?_
     exact ⟨rf_, bw_ HB.out⟩
    ·replace c26 := Bool.eq_false_iff.mpr c26
     subst c26
     have H1 : (if t676 = 2 then (some (t676, t677, t678, t679)) else (if (t677 != a1) = true then ((num_Grow.f kj13 t677 t678 t679 true true).bind fun bt688 => (some (bt688.1, bt688.2.1, bt688.2.2.1, bt688.2.2.2))) else (if t678 = 9223372036854775808 then ((num_Bound.f kj13 t677 18446744073709551615 (wrap64 (t679 - 1)) false).bind fun bt692 => (some (bt692.1, bt692.2.1, bt692.2.2.1, bt692.2.2.2))) else (some (t676, t677, IntKind.u64.wrap (t678 - 1), t679))))) = some (r1, r2, r3, r4) := by rw [if_neg (show ¬ (false = true) by decide)] at H; exact H
     clear H
     have H := H1
     clear H1
     by_cases c32 : t676 = 2
     ·rw [if_pos c32] at H
      have c32b0 : (t676 == 2) = true := beq_iff_eq.mpr c32
      have c32b1 : (t676 != 2) = false := bne_eq_false_iff_eq.mpr c32
      clear c32
      simp only [Option.some.injEq, Prod.mk.injEq] at H
      obtain ⟨rfl, rfl, rfl, rfl⟩ := H
      have hnb33 := NB674_675.out
      have hnc33 := NB675_674.out
      obtain ⟨hcz34_0, hcz34_1, hcz34_2, hcz34_3, hfz34_0, hfz34_1, hfz34_2, hfz34_3⟩ := c4_ BK674
      obtain ⟨hcz35_0, hcz35_1, hcz35_2, hcz35_3, hfz35_0, hfz35_1, hfz35_2, hfz35_3⟩ := c4_ BK675
      go_wp2
      refine bodyPost_ret (results_cell_row rfl _ _ gb675 30 #[.int .i64 t676, .bool t677, .int .u64 t678, .int .i64 t679] (0, 0) _ rfl (by refine kb_ ?_; refine bp_ #[.int .i64 t676, .bool t677, .int .u64 t678, .int .i64 0] 3 ?_; refine bp_ #[.int .i64 t676, .bool t677, .int .u64 0, .int .i64 0] 2 ?_; refine bp_ #[.int .i64 t676, .bool false, .int .u64 0, .int .i64 0] 1 ?_; refine bp_ #[.int .i64 0, .bool false, .int .u64 0, .int .i64 0] 0 ?_; exact BK675.out) Tryd.underlying30 rfl (by kernel_rfl)) rfl ?_
      exact ⟨rf_, bw_ HB.out⟩
     ·rw [if_neg c32] at H
      have c32b0 : (t676 == 2) = false := beq_eq_false_iff_ne.mpr c32
      have c32b1 : (t676 != 2) = true := bne_iff_ne.mpr c32
      by_cases c36 : (t677 != a1) = true
      ·rw [if_pos c36] at H
       have c36b0 : (t677 != a1) = true := c36
       (try (have c36b1 : decide (t677 = a1) = false := by simpa using c36))
       (try (have c36b2 : (t677 == a1) = false := by simpa using c36))
       (try (have c36b3 : ¬ (t677 = a1) := by simpa using c36))
       clear c36
       replace H := Option.bind_eq_some_iff.mp H
       obtain ⟨⟨t688, t689, t690, t691⟩, A370, H⟩ := H
       (try dsimp only at H)
       have A37 := Aside0.mk A370
       clear A370
       simp only [Option.some.injEq, Prod.mk.injEq] at H
       obtain ⟨rfl, rfl, rfl, rfl⟩ := H
       have hnb38 := NB674_675.out
       have hnc38 := NB675_674.out
       obtain ⟨hcz39_0, hcz39_1, hcz39_2, hcz39_3, hfz39_0, hfz39_1, hfz39_2, hfz39_3⟩ := c4_ BK674
       go_wp2_with (first | ((with_reducible refine gate_callee (f := 42) rfl ?_); refine gl_ (some 43) Tryd.func42 #[.bool t677, .int .u64 t678, .int .i64 t679, .bool true, .bool true] ?_; (with_reducible refine (num_Grow.calls kj13 t677 t678 t679 true true t688 t689 t690 t691 _ A37.out).mono ?_); rintro e w40 ⟨rfl, hb⟩; refine ⟨_, rfl, ?_⟩; replace BK674 := kq_ BK674 hb; replace BK675 := kq_ BK675 hb; replace HB := bq_ HB hb; (try clear hb); (try clear hb2); (try clear hk); (try clear hi); obtain ⟨hcz41_0, hcz41_1, hcz41_2, hcz41_3, hfz41_0, hfz41_1, hfz41_2, hfz41_3⟩ := c4_ BK675))
       refine bodyPost_ret (results_cell_row rfl _ _ gb675 30 #[.int .i64 t688, .bool t689, .int .u64 t690, .int .i64 t691] (0, 0) _ rfl (by refine kb_ ?_; refine bp_ #[.int .i64 t688, .bool t689, .int .u64 t690, .int .i64 0] 3 ?_; refine bp_ #[.int .i64 t688, .bool t689, .int .u64 0, .int .i64 0] 2 ?_; refine bp_ #[.int .i64 t688, .bool false, .int .u64 0, .int .i64 0] 1 ?_; refine bp_ #[.int .i64 0, .bool false, .int .u64 0, .int .i64 0] 0 ?_; exact BK675.out) Tryd.underlying30 rfl (by kernel_rfl)) rfl ?_
       exact ⟨rf_, bw_ HB.out⟩
      ·rw [if_neg c36] at H
       have c36b0 : (t677 != a1) = false := by simpa using c36
       (try (have c36b1 : decide (t677 = a1) = true := by simpa using c36))
       (try (have c36b2 : (t677 == a1) = true := by simpa using c36))
       clear c36
       by_cases c42 : t678 = 9223372036854775808
       ·rw [if_pos c42] at H
        have c42b0 : (t678 == 9223372036854775808) = true := beq_iff_eq.mpr c42
        have c42b1 : (t678 != 9223372036854775808) = false := bne_eq_false_iff_eq.mpr c42
        clear c42
        replace H := Option.bind_eq_some_iff.mp H
        obtain ⟨⟨t692, t693, t694, t695⟩, A430, H⟩ := H
        (try dsimp only at H)
        have A43 := Aside0.mk A430
        clear A430
        simp only [Option.some.injEq, Prod.mk.injEq] at H
        obtain ⟨rfl, rfl, rfl, rfl⟩ := H
        have hnb44 := NB674_675.out
        have hnc44 := NB675_674.out
        obtain ⟨hcz45_0, hcz45_1, hcz45_2, hcz45_3, hfz45_0, hfz45_1, hfz45_2, hfz45_3⟩ := c4_ BK674
        go_wp2_with (first | ((with_reducible refine gate_callee (f := 39) rfl ?_); refine gl_ (some 53) Tryd.func39 #[.bool t677, .int .u64 18446744073709551615, .int .i64 (wrap64 (t679 - 1)), .bool false] ?_; (with_reducible refine (num_Bound.calls kj13 t677 18446744073709551615 (wrap64 (t679 - 1)) false t692 t693 t694 t695 _ A43.out).mono ?_); rintro e w46 ⟨rfl, hb⟩; refine ⟨_, rfl, ?_⟩; replace BK674 := kq_ BK674 hb; replace BK675 := kq_ BK675 hb; replace HB := bq_ HB hb; (try clear hb); (try clear hb2); (try clear hk); (try clear hi); obtain ⟨hcz47_0, hcz47_1, hcz47_2, hcz47_3, hfz47_0, hfz47_1, hfz47_2, hfz47_3⟩ := c4_ BK675))
        refine bodyPost_ret (results_cell_row rfl _ _ gb675 30 #[.int .i64 t692, .bool t693, .int .u64 t694, .int .i64 t695] (0, 0) _ rfl (by refine kb_ ?_; refine bp_ #[.int .i64 t692, .bool t693, .int .u64 t694, .int .i64 0] 3 ?_; refine bp_ #[.int .i64 t692, .bool t693, .int .u64 0, .int .i64 0] 2 ?_; refine bp_ #[.int .i64 t692, .bool false, .int .u64 0, .int .i64 0] 1 ?_; refine bp_ #[.int .i64 0, .bool false, .int .u64 0, .int .i64 0] 0 ?_; exact BK675.out) Tryd.underlying30 rfl (by kernel_rfl)) rfl ?_
        exact ⟨rf_, bw_ HB.out⟩
       ·rw [if_neg c42] at H
        have c42b0 : (t678 == 9223372036854775808) = false := beq_eq_false_iff_ne.mpr c42
        have c42b1 : (t678 != 9223372036854775808) = true := bne_iff_ne.mpr c42
        simp only [Option.some.injEq, Prod.mk.injEq] at H
        obtain ⟨rfl, rfl, rfl, rfl⟩ := H
        have hnb48 := NB674_675.out
        have hnc48 := NB675_674.out
        obtain ⟨hcz49_0, hcz49_1, hcz49_2, hcz49_3, hfz49_0, hfz49_1, hfz49_2, hfz49_3⟩ := c4_ BK674
        obtain ⟨hcz50_0, hcz50_1, hcz50_2, hcz50_3, hfz50_0, hfz50_1, hfz50_2, hfz50_3⟩ := c4_ BK675
        go_wp2
        refine bodyPost_ret (results_cell_row rfl _ _ gb675 30 #[.int .i64 t676, .bool t677, .int .u64 (IntKind.u64.wrap (t678 - 1)), .int .i64 t679] (0, 0) _ rfl (by refine kb_ ?_; refine bp_ #[.int .i64 t676, .bool t677, .int .u64 (IntKind.u64.wrap (t678 - 1)), .int .i64 0] 3 ?_; refine bp_ #[.int .i64 t676, .bool t677, .int .u64 0, .int .i64 0] 2 ?_; refine bp_ #[.int .i64 t676, .bool false, .int .u64 0, .int .i64 0] 1 ?_; refine bp_ #[.int .i64 0, .bool false, .int .u64 0, .int .i64 0] 0 ?_; refine bf_ NB675_674 ?_; exact BK675.out) Tryd.underlying30 rfl (by kernel_rfl)) rfl ?_
        exact ⟨rf_, bw_ HB.out⟩

end Go.Proofs.YtkemnoejpbknhaaDoor.PA
