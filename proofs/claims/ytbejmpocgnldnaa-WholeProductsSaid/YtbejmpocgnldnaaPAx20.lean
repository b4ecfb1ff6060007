-- Laid by this work's own program; Lean checks it.
import Derived.Test.YtbejmpocgnldnaaPAx0
import Derived.Test.YtbejmpocgnldnaaPAx1
import Derived.Test.YtbejmpocgnldnaaPAx7
import Derived.Test.YtbejmpocgnldnaaPAx8
import Derived.Test.YtbejmpocgnldnaaPAx9
import Derived.Test.YtbejmpocgnldnaaPAx11
import Derived.Test.YtbejmpocgnldnaaPAx15
import Derived.Test.YtbejmpocgnldnaaPAx16
import Derived.Test.YtbejmpocgnldnaaPAx17
namespace Go.Proofs.Ytbejmpocgnldnaa.PA
open Go.RowKit Go.Proofs.YtbejmpocgnldnaaW.PrintWords Go.Proofs.YtbejmpocgnldnaaW.PrintLast Go.Proofs.YtbejmpocgnldnaaW.PrintMore
attribute [local go_sem] max2_int min2_int max_two min_two max_three min_three max_four min_four   -- for this text's walks alone
set_option linter.unusedVariables false
set_option linter.unusedSimpArgs false

attribute [local go_sem ↓ high] isSome_set_
/-! ### peloruslaw02_WholeProducts: function 3 -/
set_option maxHeartbeats 8000000 in
set_option maxRecDepth 100000 in
theorem peloruslaw02_WholeProducts.calls (k : Nat) (a0_0 : Bool) (A0_1 : Option Addr) (c0_1 : Nat) (l0_1 : List Int) (a1_0 : Bool) (A1_1 : Option Addr) (c1_1 : Nat) (l1_1 : List Int) (A2 : Option Addr) (c2 : Nat) (l2 : List (S24)) (r : Bool) (w : World) (hr0_1 : Kd.C (Kd.int .u32) w A0_1 l0_1.length l0_1) (hc0_1 : l0_1.length ≤ c0_1) (hr1_1 : Kd.C (Kd.int .u32) w A1_1 l1_1.length l1_1) (hc1_1 : l1_1.length ≤ c1_1) (hr2 : Kd.C k24 w A2 l2.length l2) (hc2 : l2.length ≤ c2) (hr_ : r = true) (haw_ : ∀ r, peloruslaw02_awake.f k = some r → r = true) (h : peloruslaw02_WholeProducts.f k a0_0 l0_1 a1_0 l1_1 l2 = some r) :
  Calls Try.prog 3 #[.agg #[.bool a0_0, .slice A0_1 l0_1.length c0_1], .agg #[.bool a1_0, .slice A1_1 l1_1.length c1_1], .slice A2 l2.length c2] w fun e w' => e = .returned (.bool r) ∧ Below w.heap.size w w' := by
 have HRT_ := Aside0.mk hr_
 clear hr_
 have HAW_ := Aside0.mk haw_
 clear haw_
 have hu24 := Try.underlying24
 have HR0_1 := Aside0.mk hr0_1
 have HC0_1 := Aside0.mk hc0_1
 clear hr0_1 hc0_1
 have HR1_1 := Aside0.mk hr1_1
 have HC1_1 := Aside0.mk hc1_1
 clear hr1_1 hc1_1
 have HR2 := Aside0.mk hr2
 have HC2 := Aside0.mk hc2
 clear hr2 hc2
 have HB := Aside0.mk (Below.refl w.heap.size w)
 have H : ((peloruslaw02_awake.f k).bind fun t805 => ((peloruslaw02_Few.f a0_0 l0_1).bind fun t806 => ((peloruslaw02_Few.f a1_0 l1_1).bind fun t807 => (if t805 = true then (if t806 = true then (if t807 = true then (peloruslaw02_WholeProducts.j0 k l2 t805 (decide ((l2.length : Int) > 6)) a0_0 l0_1 a1_0 l1_1) else (peloruslaw02_WholeProducts.j0 k l2 t805 true a0_0 l0_1 a1_0 l1_1)) else (peloruslaw02_WholeProducts.j0 k l2 t805 true a0_0 l0_1 a1_0 l1_1)) else (peloruslaw02_WholeProducts.j0 k l2 t805 true a0_0 l0_1 a1_0 l1_1))))) = some r := h
 clear h
 replace H := Option.bind_eq_some_iff.mp H
 obtain ⟨t805, A40, H⟩ := H
 (try dsimp only at H)
 have A4 := Aside0.mk A40
 clear A40
 replace H := Option.bind_eq_some_iff.mp H
 obtain ⟨t806, A50, H⟩ := H
 (try dsimp only at H)
 have A5 := Aside0.mk A50
 clear A50
 replace H := Option.bind_eq_some_iff.mp H
 obtain ⟨t807, A60, H⟩ := H
 (try dsimp only at H)
 have A6 := Aside0.mk A60
 clear A60
 have HC7 := Aside0.mk H
 clear H
 go_enter Try.func3, Try.ntmps3
 go_upto_region 4 with (first | ((with_reducible refine gate_dst (N := 3) rfl ?_); (try (refine gate_guard (by rfl) ?_; dsimp only)); refine bx_ 3 #[.bool a0_0, .slice A0_1 l0_1.length c0_1] 24 ?_; intro gb803 hg w8 hbox hb; have BK803 := Aside0.mk (hbox); have GW803 := ge_ hg HB; have GE803 := ge_ hg HB; replace HB := bq_ HB hb; clear hb hbox hg) | ((with_reducible refine gate_dst (N := 4) rfl ?_); (try (refine gate_guard (by rfl) ?_; dsimp only)); refine bx_ 4 #[.bool a1_0, .slice A1_1 l1_1.length c1_1] 24 ?_; intro gb804 hg w9 hbox hb; have BK804 := Aside0.mk (hbox); have GW804 := ge_ hg HB; have GE804 := ge_ hg HB; have NB803_804 := nb_ hg BK803; have NB804_803 := nc_ hg BK803; replace BK803 := kq_ BK803 hb; replace HB := bq_ HB hb; clear hb hbox hg) | ((with_reducible refine gate_callee (f := 9) rfl ?_); refine gl_ (some 20) Try.func9 #[] ?_; (with_reducible refine (peloruslaw02_awake.calls k  t805 _ (HAW_.out _ A4.out) A4.out).mono ?_); rintro e w10 ⟨rfl, hb⟩; refine ⟨_, rfl, ?_⟩; replace BK803 := kq_ BK803 hb; replace BK804 := kq_ BK804 hb; replace HB := bq_ HB hb; (try clear hb); (try clear hb2); (try clear hk); (try clear hi); have hnb11 := NB803_804.out; have hnc11 := NB804_803.out; obtain ⟨hcz12_0, hcz12_1, hfz12_0, hfz12_1⟩ := c2_ BK803) | ((with_reducible refine gate_callee (f := 10) rfl ?_); refine gl_ (some 22) Try.func10 #[.agg #[.bool a0_0, .slice A0_1 l0_1.length c0_1]] ?_; (with_reducible refine (peloruslaw02_Few.calls a0_0 _ _ l0_1 t806 _ ?side1 ?side2 A5.out).mono ?_); (case side1 => exact kc_ (Kd.C_below HR0_1.out HB.out)); (case side2 => exact HC0_1.out); rintro e w13 ⟨rfl, hb⟩; refine ⟨_, rfl, ?_⟩; replace BK803 := kq_ BK803 hb; replace BK804 := kq_ BK804 hb; replace HB := bq_ HB hb; (try clear hb); (try clear hb2); (try clear hk); (try clear hi); obtain ⟨hcz14_0, hcz14_1, hfz14_0, hfz14_1⟩ := c2_ BK804) | ((with_reducible refine gate_callee (f := 10) rfl ?_); refine gl_ (some 24) Try.func10 #[.agg #[.bool a1_0, .slice A1_1 l1_1.length c1_1]] ?_; (with_reducible refine (peloruslaw02_Few.calls a1_0 _ _ l1_1 t807 _ ?side1 ?side2 A6.out).mono ?_); (case side1 => exact kc_ (Kd.C_below HR1_1.out HB.out)); (case side2 => exact HC1_1.out); rintro e w15 ⟨rfl, hb⟩; refine ⟨_, rfl, ?_⟩; replace BK803 := kq_ BK803 hb; replace BK804 := kq_ BK804 hb; replace HB := bq_ HB hb; (try clear hb); (try clear hb2); (try clear hk); (try clear hi)))
 (try simp only [Act.put, List.setIfInBounds_toArray, List.set_cons_zero, List.set_cons_succ])
 go_cut [39] (fun v39 wc => ∃ (kq : Nat) (x39_6 : Bool), v39 = .bool x39_6 ∧ Aside0 (peloruslaw02_WholeProducts.j0 kq l2 t805 x39_6 a0_0 l0_1 a1_0 l1_1 = some r) ∧ Aside0 (kq ≤ k) ∧ Aside0 (wc.heap[gb803]? = some (.cells #[.bool a0_0, (.slice A0_1 l0_1.length c0_1)] 24 (0, 0))) ∧ Aside0 (wc.heap[gb804]? = some (.cells #[.bool a1_0, (.slice A1_1 l1_1.length c1_1)] 24 (0, 0))) ∧ Aside0 (Below w.heap.size w wc))
 case first =>
  have H := HC7.out
  clear HC7
  by_cases c16 : t805 = true
  ·subst c16
   have H1 : (if t806 = true then (if t807 = true then (peloruslaw02_WholeProducts.j0 k l2 true (decide ((l2.length : Int) > 6)) a0_0 l0_1 a1_0 l1_1) else (peloruslaw02_WholeProducts.j0 k l2 true true a0_0 l0_1 a1_0 l1_1)) else (peloruslaw02_WholeProducts.j0 k l2 true true a0_0 l0_1 a1_0 l1_1)) = some r := by rw [if_pos rfl] at H; exact H
   clear H
   have H := H1
   clear H1
   by_cases c17 : t806 = true
   ·subst c17
    have H1 : (if t807 = true then (peloruslaw02_WholeProducts.j0 k l2 true (decide ((l2.length : Int) > 6)) a0_0 l0_1 a1_0 l1_1) else (peloruslaw02_WholeProducts.j0 k l2 true true a0_0 l0_1 a1_0 l1_1)) = some r := by rw [if_pos rfl] at H; exact H
    clear H
    have H := H1
    clear H1
    by_cases c18 : t807 = true
    ·subst c18
     have H1 : (peloruslaw02_WholeProducts.j0 k l2 true (decide ((l2.length : Int) > 6)) a0_0 l0_1 a1_0 l1_1) = some r := by rw [if_pos rfl] at H; exact H
     clear H
     have H := H1
     clear H1
     have H' := Aside0.mk H
     clear H
     go_wp2
     go_meet
     case rel => exact ⟨_, (decide ((l2.length : Int) > 6)), (by first | rfl | (simp; done) | (simp [*]; done)), H', ⟨by first | omega | exact Nat.le_refl _⟩, ⟨kb_ BK803.out⟩, ⟨kb_ BK804.out⟩, ⟨bw_ HB.out⟩⟩
    ·replace c18 := Bool.eq_false_iff.mpr c18
     subst c18
     have H1 : (peloruslaw02_WholeProducts.j0 k l2 true true a0_0 l0_1 a1_0 l1_1) = some r := by rw [if_neg (show ¬ (false = true) by decide)] at H; exact H
     clear H
     have H := H1
     clear H1
     have H' := Aside0.mk H
     clear H
     go_wp2
     go_meet
     case rel => exact ⟨_, (true), (by first | rfl | (simp; done) | (simp [*]; done)), H', ⟨by first | omega | exact Nat.le_refl _⟩, ⟨kb_ BK803.out⟩, ⟨kb_ BK804.out⟩, ⟨bw_ HB.out⟩⟩
   ·replace c17 := Bool.eq_false_iff.mpr c17
    subst c17
    have H1 : (peloruslaw02_WholeProducts.j0 k l2 true true a0_0 l0_1 a1_0 l1_1) = some r := by rw [if_neg (show ¬ (false = true) by decide)] at H; exact H
    clear H
    have H := H1
    clear H1
    have H' := Aside0.mk H
    clear H
    go_wp2
    go_meet
    case rel => exact ⟨_, (true), (by first | rfl | (simp; done) | (simp [*]; done)), H', ⟨by first | omega | exact Nat.le_refl _⟩, ⟨kb_ BK803.out⟩, ⟨kb_ BK804.out⟩, ⟨bw_ HB.out⟩⟩
  ·replace c16 := Bool.eq_false_iff.mpr c16
   subst c16
   have H1 : (peloruslaw02_WholeProducts.j0 k l2 false true a0_0 l0_1 a1_0 l1_1) = some r := by rw [if_neg (show ¬ (false = true) by decide)] at H; exact H
   clear H
   have H := H1
   clear H1
   have H' := Aside0.mk H
   clear H
   go_wp2
   go_meet
   case rel => exact ⟨_, (true), (by first | rfl | (simp; done) | (simp [*]; done)), H', ⟨by first | omega | exact Nat.le_refl _⟩, ⟨kb_ BK803.out⟩, ⟨kb_ BK804.out⟩, ⟨bw_ HB.out⟩⟩
 case rest =>
  clear HC7
  try clear c1
  try clear c2
  try clear p2
  try clear c3
  try clear c9
  try clear c10
  try clear c11
  try clear c16
  try clear c17
  try clear c18
  try clear hcz12_0 hcz12_1
  try clear hcz14_0 hcz14_1
  try clear hfz12_0 hfz12_1
  try clear hfz14_0 hfz14_1
  obtain ⟨kq, x39_6, rfl, HA, HJ6, BK803, BK804, HB⟩ := hcut
  cases kq with
  | zero => exact absurd HA.out (by simp [peloruslaw02_WholeProducts.j0])
  | succ kj6 =>
   have H := HA.out
   clear HA
   simp only [peloruslaw02_WholeProducts.j0] at H
   by_cases c19 : x39_6 = true
   ·subst c19
    have H1 : (some t805) = some r := by rw [if_pos rfl] at H; exact H
    clear H
    have H := H1
    clear H1
    obtain rfl := Option.some.inj H
    go_wp2
    go_ret
    exact ⟨rf_, bw_ HB.out⟩
   ·replace c19 := Bool.eq_false_iff.mpr c19
    subst c19
    have H1 : (peloruslaw02_WholeProducts.l0 kj6 l2 0 a0_0 l0_1 a1_0 l1_1) = some r := by rw [if_neg (show ¬ (false = true) by decide)] at H; exact H
    clear H
    have H := H1
    clear H1
    have H' := Aside0.mk H
    clear H
    go_wp2
    go_loopg [10] kj6 (fun kq v10 w' => ∃ (x10_2 : Int), v10 = .int .i64 x10_2 ∧ Aside0 (peloruslaw02_WholeProducts.l0 kq l2 x10_2 a0_0 l0_1 a1_0 l1_1 = some r) ∧ Aside0 (kq ≤ kj6) ∧ Aside0 (w'.heap[gb803]? = some (.cells #[.bool a0_0, (.slice A0_1 l0_1.length c0_1)] 24 (0, 0))) ∧ Aside0 (w'.heap[gb804]? = some (.cells #[.bool a1_0, (.slice A1_1 l1_1.length c1_1)] 24 (0, 0))) ∧ Aside0 (Below w.heap.size w w'))
    case atStart => exact ⟨(0), (by first | rfl | (simp; done) | (simp [*]; done)), H', ⟨Nat.le_refl _⟩, ⟨kb_ BK803.out⟩, ⟨kb_ BK804.out⟩, ⟨bw_ HB.out⟩⟩
    case round =>
     clear H'
     try clear c1
     try clear c2
     try clear p2
     try clear c3
     try clear c9
     try clear c10
     try clear c11
     try clear c16
     try clear c17
     try clear c18
     try clear c19
     try clear hcz12_0 hcz12_1
     try clear hcz14_0 hcz14_1
     try clear hfz12_0 hfz12_1
     try clear hfz14_0 hfz14_1
     try clear p2
     obtain ⟨x10_2, rfl, HA, HK2, BK803, BK804, HB⟩ := hrel
     cases gk with
     | zero => exact absurd HA.out (by simp [peloruslaw02_WholeProducts.l0])
     | succ k2 =>
      have H := HA.out
      clear HA
      simp only [peloruslaw02_WholeProducts.l0] at H
      by_cases c20 : x10_2 < (l2.length : Int)
      ·rw [if_pos c20] at H
       have c20b0 : decide (x10_2 < (l2.length : Int)) = true := decide_eq_true c20
       clear c20
       by_cases c21 : 0 ≤ x10_2
       ·rw [if_pos c21] at H
        have c21b0 : decide (0 ≤ x10_2) = true := decide_eq_true c21
        clear c21
        by_cases c22 : (((rd_T24 l2 x10_2).f1).length : Int) > 10
        ·rw [if_pos c22] at H
         have c22b0 : decide (10 < (((rd_T24 l2 x10_2).f1).length : Int)) = true := decide_eq_true c22
         have c22b1 : decide (10 < ((rd_T24 l2 x10_2).f1).length) = true := decide_eq_true (by omega)
         clear c22
         obtain rfl := Option.some.inj H
         have p808 : 0 ≤ (x10_2 : Int) := of_decide_eq_true (by first | (with_reducible assumption) | assumption)
         have q808 : x10_2 < (l2.length : Int) := of_decide_eq_true (by first | (with_reducible assumption) | assumption)
         obtain ⟨ad808, A808_1, c808_1, e808, hx808_0, hx808_1, hl808_1, hi808_1⟩ := at_T24 HR2.out x10_2 p808 q808
         cases e808
         replace hx808_0 := (HB.out.cell (World.block_lt_of_cell? w _ hx808_0)).trans hx808_0
         replace hx808_1 := (HB.out.cell (World.block_lt_of_cell? w _ hx808_1)).trans hx808_1
         have HR808_1 := Aside0.mk hi808_1
         have HC808_1 := Aside0.mk hl808_1
         clear hi808_1 hl808_1
         replace p808 := eq_true p808
         replace q808 := eq_true q808
         go_wp2
         go_ret
         exact ⟨rf_, bw_ HB.out⟩
        ·rw [if_neg c22] at H
         have c22b0 : decide (10 < (((rd_T24 l2 x10_2).f1).length : Int)) = false := decide_eq_false c22
         have c22b1 : decide (10 < ((rd_T24 l2 x10_2).f1).length) = false := decide_eq_false (by omega)
         clear c22
         have H' := Aside0.mk H
         clear H
         have p808 : 0 ≤ (x10_2 : Int) := of_decide_eq_true (by first | (with_reducible assumption) | assumption)
         have q808 : x10_2 < (l2.length : Int) := of_decide_eq_true (by first | (with_reducible assumption) | assumption)
         obtain ⟨ad808, A808_1, c808_1, e808, hx808_0, hx808_1, hl808_1, hi808_1⟩ := at_T24 HR2.out x10_2 p808 q808
         cases e808
         replace hx808_0 := (HB.out.cell (World.block_lt_of_cell? w _ hx808_0)).trans hx808_0
         replace hx808_1 := (HB.out.cell (World.block_lt_of_cell? w _ hx808_1)).trans hx808_1
         have HR808_1 := Aside0.mk hi808_1
         have HC808_1 := Aside0.mk hl808_1
         clear hi808_1 hl808_1
         replace p808 := eq_true p808
         replace q808 := eq_true q808
         go_wp2
         go_roundg k2
         case measure => have := HJ6.out; have := HK2.out; omega
         case rel => exact ⟨(wrap64 (x10_2 + 1)), (by first | rfl | (simp; done) | (simp [*]; done)), H', ⟨by have := HJ6.out; have := HK2.out; omega⟩, ⟨kb_ BK803.out⟩, ⟨kb_ BK804.out⟩, ⟨bw_ HB.out⟩⟩
       ·rw [if_neg c21] at H
        exact absurd H (by simp)
      ·rw [if_neg c20] at H
       have c20b0 : decide (x10_2 < (l2.length : Int)) = false := decide_eq_false c20
       clear c20
       replace H := Option.bind_eq_some_iff.mp H
       obtain ⟨⟨t809, t810, t813, t814, t817⟩, A230, H⟩ := H
       (try dsimp only at H)
       have A23 := Aside0.mk A230
       clear A230
       replace H := Option.bind_eq_some_iff.mp H
       obtain ⟨⟨t820, t821, t824, t825, t828⟩, A240, H⟩ := H
       (try dsimp only at H)
       have A24 := Aside0.mk A240
       clear A240
       replace H := Option.bind_eq_some_iff.mp H
       obtain ⟨t831, A250, H⟩ := H
       (try dsimp only at H)
       have A25 := Aside0.mk A250
       clear A250
       replace H := Option.bind_eq_some_iff.mp H
       obtain ⟨t832, A260, H⟩ := H
       (try dsimp only at H)
       have A26 := Aside0.mk A260
       clear A260
       replace H := Option.bind_eq_some_iff.mp H
       obtain ⟨⟨t833, t834⟩, A270, H⟩ := H
       (try dsimp only at H)
       have A27 := Aside0.mk A270
       clear A270
       replace H := Option.bind_eq_some_iff.mp H
       obtain ⟨⟨t837, t838⟩, A280, H⟩ := H
       (try dsimp only at H)
       have A28 := Aside0.mk A280
       clear A280
       replace H := Option.bind_eq_some_iff.mp H
       obtain ⟨t841, A290, H⟩ := H
       (try dsimp only at H)
       have A29 := Aside0.mk A290
       clear A290
       by_cases c30 : t831 = true
       ·subst c30
        have H1 : (if t832 = true then (if t841 = true then (some (t817 == t828)) else (some false)) else (some false)) = some r := by rw [if_pos rfl] at H; exact H
        clear H
        have H := H1
        clear H1
        by_cases c31 : t832 = true
        ·subst c31
         have H1 : (if t841 = true then (some (t817 == t828)) else (some false)) = some r := by rw [if_pos rfl] at H; exact H
         clear H
         have H := H1
         clear H1
         by_cases c32 : t841 = true
         ·subst c32
          have H1 : (some (t817 == t828)) = some r := by rw [if_pos rfl] at H; exact H
          clear H
          have H := H1
          clear H1
          obtain rfl := Option.some.inj H
          have hnb33 := NB803_804.out
          have hnc33 := NB804_803.out
          obtain ⟨hcz34_0, hcz34_1, hfz34_0, hfz34_1⟩ := c2_ BK803
          obtain ⟨hcz35_0, hcz35_1, hfz35_0, hfz35_1⟩ := c2_ BK804
          go_wp2_with (first | ((with_reducible refine gate_callee (f := 11) rfl ?_); refine gl_ (some 57) Try.func11 #[.agg #[.bool a0_0, .slice A0_1 l0_1.length c0_1], .agg #[.bool a1_0, .slice A1_1 l1_1.length c1_1]] ?_; (with_reducible refine (whole_Div.calls k2 a0_0 _ _ l0_1 a1_0 _ _ l1_1 t809 t810 t813 t814 t817 _ ?side1 ?side2 ?side3 ?side4 A23.out).mono ?_); (case side1 => exact kc_ (Kd.C_below HR0_1.out HB.out)); (case side2 => exact HC0_1.out); (case side3 => exact kc_ (Kd.C_below HR1_1.out HB.out)); (case side4 => exact HC1_1.out); rintro e w36 ⟨v811, v815, rfl, ho0, ho1, hb⟩; refine ⟨_, rfl, ?_⟩; have HO812 := Aside0.mk (Kd.R_lower ho0 (below_size (bw_ HB.out))); have HO816 := Aside0.mk (Kd.R_lower ho1 (below_size (bw_ HB.out))); replace BK803 := kq_ BK803 hb; replace BK804 := kq_ BK804 hb; replace HB := bq_ HB hb; (try clear hb); (try clear hb2); (try clear hk); (try clear hi); (try clear ho0); (try clear ho1)) | ((with_reducible refine gate_dst (N := 11) rfl ?_); (try (refine gate_guard (by rfl) ?_; dsimp only)); refine bx_ 11 #[.bool false, .slice none 0 0] 24 ?_; intro gb818 hg w37 hbox hb; have BK818 := Aside0.mk (hbox); have GW818 := ge_ hg HB; have GE818 := ge_ hg HB; have NB803_818 := nb_ hg BK803; have NB818_803 := nc_ hg BK803; have NB804_818 := nb_ hg BK804; have NB818_804 := nc_ hg BK804; replace HO812 := Aside0.mk (Kd.R_below (kr_ HO812.out) hb); replace HO816 := Aside0.mk (Kd.R_below (kr_ HO816.out) hb); replace BK803 := kq_ BK803 hb; replace BK804 := kq_ BK804 hb; replace HB := bq_ HB hb; clear hb hbox hg) | ((with_reducible refine gate_dst (N := 12) rfl ?_); (try (refine gate_guard (by rfl) ?_; dsimp only)); refine bx_ 12 #[.bool false, .slice none 0 0] 24 ?_; intro gb819 hg w38 hbox hb; have BK819 := Aside0.mk (hbox); have GW819 := ge_ hg HB; have GE819 := ge_ hg HB; have NB803_819 := nb_ hg BK803; have NB819_803 := nc_ hg BK803; have NB804_819 := nb_ hg BK804; have NB819_804 := nc_ hg BK804; have NB818_819 := nb_ hg BK818; have NB819_818 := nc_ hg BK818; replace HO812 := Aside0.mk (Kd.R_below (kr_ HO812.out) hb); replace HO816 := Aside0.mk (Kd.R_below (kr_ HO816.out) hb); replace BK803 := kq_ BK803 hb; replace BK804 := kq_ BK804 hb; replace BK818 := kq_ BK818 hb; replace HB := bq_ HB hb; clear hb hbox hg; have hnb39 := NB818_803.out; have hnc39 := NB803_818.out; have hnb40 := NB818_804.out; have hnc40 := NB804_818.out; have hnb41 := NB818_819.out; have hnc41 := NB819_818.out; obtain ⟨hcz42_0, hcz42_1, hfz42_0, hfz42_1⟩ := c2_ BK818; obtain ⟨Ao43, co43, eo43⟩ := Kd.R_slice HO812.out; subst eo43; have hnb44 := NB819_803.out; have hnc44 := NB803_819.out; have hnb45 := NB819_804.out; have hnc45 := NB804_819.out; obtain ⟨hcz46_0, hcz46_1, hfz46_0, hfz46_1⟩ := c2_ BK819; obtain ⟨Ao47, co47, eo47⟩ := Kd.R_slice HO816.out; subst eo47; obtain ⟨hcz48_0, hcz48_1, hfz48_0, hfz48_1⟩ := c2_ BK803; obtain ⟨hcz49_0, hcz49_1, hfz49_0, hfz49_1⟩ := c2_ BK804) | ((with_reducible refine gate_callee (f := 12) rfl ?_); refine gl_ (some 64) Try.func12 #[.agg #[.bool a0_0, .slice A0_1 l0_1.length c0_1], .agg #[.bool a1_0, .slice A1_1 l1_1.length c1_1]] ?_; (with_reducible refine (pelorusref02_Div.calls k2 a0_0 _ _ l0_1 a1_0 _ _ l1_1 t820 t821 t824 t825 t828 _ ?side1 ?side2 ?side3 ?side4 A24.out).mono ?_); (case side1 => exact Kd.C_below HR0_1.out (bw_ HB.out)); (case side2 => exact HC0_1.out); (case side3 => exact Kd.C_below HR1_1.out (bw_ HB.out)); (case side4 => exact HC1_1.out); rintro e w50 ⟨v822, v826, rfl, ho0, ho1, hb⟩; refine ⟨_, rfl, ?_⟩; have n0_ := Aside0.mk (Kd.R_mono (Kd.R_told (Kd.R_told (Kd.R_old (kr_ ((Kd.R_mono (Kd.R_mono (Kd.R_far (p := ⟨gb819, 1, none⟩) (Kd.R_far (p := ⟨gb819, 0, none⟩) (Kd.R_far (p := ⟨gb818, 1, none⟩) (Kd.R_far (p := ⟨gb818, 0, none⟩) (Kd.R_types (Kd.R_types HO812.out BK818.out (by decide)) BK819.out (by decide)) (fun _ hk => hk.1.2) (.bool t809)) (fun _ hk => hk.1.2) (.slice Ao43 t810.length co43)) (fun _ hk => hk.2) (.bool t813)) (fun _ hk => hk.2) (.slice Ao47 t814.length co47)) (fun _ h_ => h_.1)) (fun _ h_ => h_.1)))) hb) (Kd.R_base ho0)) (Kd.R_base ho1)) (fun _ h_ => h_.1)); have n1_ := Aside0.mk (Kd.R_mono (Kd.R_told (Kd.R_told (Kd.R_old (kr_ ((Kd.R_mono (Kd.R_mono (Kd.R_far (p := ⟨gb819, 1, none⟩) (Kd.R_far (p := ⟨gb819, 0, none⟩) (Kd.R_far (p := ⟨gb818, 1, none⟩) (Kd.R_far (p := ⟨gb818, 0, none⟩) (Kd.R_types (Kd.R_types HO816.out BK818.out (by decide)) BK819.out (by decide)) (fun _ hk => hk.1.2) (.bool t809)) (fun _ hk => hk.1.2) (.slice Ao43 t810.length co43)) (fun _ hk => hk.2) (.bool t813)) (fun _ hk => hk.2) (.slice Ao47 t814.length co47)) (fun _ h_ => h_.1)) (fun _ h_ => h_.1)))) hb) (Kd.R_base ho0)) (Kd.R_base ho1)) (fun _ h_ => h_.1)); have n2_ := Aside0.mk (Kd.R_lower (Kd.R_new' (Kd.R_new' ho0 (Kd.R_lt (kr_ ((Kd.R_mono (Kd.R_mono (Kd.R_far (p := ⟨gb819, 1, none⟩) (Kd.R_far (p := ⟨gb819, 0, none⟩) (Kd.R_far (p := ⟨gb818, 1, none⟩) (Kd.R_far (p := ⟨gb818, 0, none⟩) (Kd.R_types (Kd.R_types HO812.out BK818.out (by decide)) BK819.out (by decide)) (fun _ hk => hk.1.2) (.bool t809)) (fun _ hk => hk.1.2) (.slice Ao43 t810.length co43)) (fun _ hk => hk.2) (.bool t813)) (fun _ hk => hk.2) (.slice Ao47 t814.length co47)) (fun _ h_ => h_.1)) (fun _ h_ => h_.1)))))) (Kd.R_lt (kr_ ((Kd.R_mono (Kd.R_mono (Kd.R_far (p := ⟨gb819, 1, none⟩) (Kd.R_far (p := ⟨gb819, 0, none⟩) (Kd.R_far (p := ⟨gb818, 1, none⟩) (Kd.R_far (p := ⟨gb818, 0, none⟩) (Kd.R_types (Kd.R_types HO816.out BK818.out (by decide)) BK819.out (by decide)) (fun _ hk => hk.1.2) (.bool t809)) (fun _ hk => hk.1.2) (.slice Ao43 t810.length co43)) (fun _ hk => hk.2) (.bool t813)) (fun _ hk => hk.2) (.slice Ao47 t814.length co47)) (fun _ h_ => h_.1)) (fun _ h_ => h_.1)))))) (below_size (bw_ HB.out))); have n3_ := Aside0.mk (Kd.R_lower (Kd.R_new' (Kd.R_new' ho1 (Kd.R_lt (kr_ ((Kd.R_mono (Kd.R_mono (Kd.R_far (p := ⟨gb819, 1, none⟩) (Kd.R_far (p := ⟨gb819, 0, none⟩) (Kd.R_far (p := ⟨gb818, 1, none⟩) (Kd.R_far (p := ⟨gb818, 0, none⟩) (Kd.R_types (Kd.R_types HO812.out BK818.out (by decide)) BK819.out (by decide)) (fun _ hk => hk.1.2) (.bool t809)) (fun _ hk => hk.1.2) (.slice Ao43 t810.length co43)) (fun _ hk => hk.2) (.bool t813)) (fun _ hk => hk.2) (.slice Ao47 t814.length co47)) (fun _ h_ => h_.1)) (fun _ h_ => h_.1)))))) (Kd.R_lt (kr_ ((Kd.R_mono (Kd.R_mono (Kd.R_far (p := ⟨gb819, 1, none⟩) (Kd.R_far (p := ⟨gb819, 0, none⟩) (Kd.R_far (p := ⟨gb818, 1, none⟩) (Kd.R_far (p := ⟨gb818, 0, none⟩) (Kd.R_types (Kd.R_types HO816.out BK818.out (by decide)) BK819.out (by decide)) (fun _ hk => hk.1.2) (.bool t809)) (fun _ hk => hk.1.2) (.slice Ao43 t810.length co43)) (fun _ hk => hk.2) (.bool t813)) (fun _ hk => hk.2) (.slice Ao47 t814.length co47)) (fun _ h_ => h_.1)) (fun _ h_ => h_.1)))))) (below_size (bw_ HB.out))); have n4_ := Aside0.mk (blk_below (g := gb803) (o := .cells #[.bool a0_0, .slice A0_1 l0_1.length c0_1] 24 (0, 0)) (by refine kb_ ?_; refine bf_ NB803_819 ?_; refine bf_ NB803_819 ?_; refine bf_ NB803_818 ?_; refine bf_ NB803_818 ?_; exact BK803.out) hb); have n5_ := Aside0.mk (blk_below (g := gb804) (o := .cells #[.bool a1_0, .slice A1_1 l1_1.length c1_1] 24 (0, 0)) (by refine kb_ ?_; refine bf_ NB804_819 ?_; refine bf_ NB804_819 ?_; refine bf_ NB804_818 ?_; refine bf_ NB804_818 ?_; exact BK804.out) hb); have n6_ := Aside0.mk (blk_below (g := gb818) (o := .cells #[.bool t809, .slice Ao43 t810.length co43] 24 (0, 0)) (by refine kb_ ?_; refine bf_ NB818_819 ?_; refine bf_ NB818_819 ?_; refine bp_ #[.bool t809, .slice none 0 0] 1 ?_; refine bp_ #[.bool false, .slice none 0 0] 0 ?_; exact BK818.out) hb); have n7_ := Aside0.mk (blk_below (g := gb819) (o := .cells #[.bool t813, .slice Ao47 t814.length co47] 24 (0, 0)) (by refine kb_ ?_; refine bp_ #[.bool t813, .slice none 0 0] 1 ?_; refine bp_ #[.bool false, .slice none 0 0] 0 ?_; refine bf_ NB819_818 ?_; refine bf_ NB819_818 ?_; exact BK819.out) hb); have n8_ := bq_ HB hb; clear HO812; clear HO816; clear BK803; clear BK804; clear BK818; clear BK819; clear HB; have HO812 := n0_; have HO816 := n1_; have HO823 := n2_; have HO827 := n3_; have BK803 := n4_; have BK804 := n5_; have BK818 := n6_; have BK819 := n7_; have HB := n8_; clear n0_ n1_ n2_ n3_ n4_ n5_ n6_ n7_ n8_; (try clear hb); (try clear hb2); (try clear hk); (try clear hi); (try clear ho0); (try clear ho1)) | ((with_reducible refine gate_dst (N := 14) rfl ?_); (try (refine gate_guard (by rfl) ?_; dsimp only)); refine bx_ 14 #[.bool false, .slice none 0 0] 24 ?_; intro gb829 hg w51 hbox hb; have BK829 := Aside0.mk (hbox); have GW829 := ge_ hg HB; have GE829 := ge_ hg HB; have NB803_829 := nb_ hg BK803; have NB829_803 := nc_ hg BK803; have NB804_829 := nb_ hg BK804; have NB829_804 := nc_ hg BK804; have NB818_829 := nb_ hg BK818; have NB829_818 := nc_ hg BK818; have NB819_829 := nb_ hg BK819; have NB829_819 := nc_ hg BK819; replace HO812 := Aside0.mk (Kd.R_below (kr_ HO812.out) hb); replace HO816 := Aside0.mk (Kd.R_below (kr_ HO816.out) hb); replace HO823 := Aside0.mk (Kd.R_below (kr_ HO823.out) hb); replace HO827 := Aside0.mk (Kd.R_below (kr_ HO827.out) hb); replace BK803 := kq_ BK803 hb; replace BK804 := kq_ BK804 hb; replace BK818 := kq_ BK818 hb; replace BK819 := kq_ BK819 hb; replace HB := bq_ HB hb; clear hb hbox hg) | ((with_reducible refine gate_dst (N := 15) rfl ?_); (try (refine gate_guard (by rfl) ?_; dsimp only)); refine bx_ 15 #[.bool false, .slice none 0 0] 24 ?_; intro gb830 hg w52 hbox hb; have BK830 := Aside0.mk (hbox); have GW830 := ge_ hg HB; have GE830 := ge_ hg HB; have NB803_830 := nb_ hg BK803; have NB830_803 := nc_ hg BK803; have NB804_830 := nb_ hg BK804; have NB830_804 := nc_ hg BK804; have NB818_830 := nb_ hg BK818; have NB830_818 := nc_ hg BK818; have NB819_830 := nb_ hg BK819; have NB830_819 := nc_ hg BK819; have NB829_830 := nb_ hg BK829; have NB830_829 := nc_ hg BK829; replace HO812 := Aside0.mk (Kd.R_below (kr_ HO812.out) hb); replace HO816 := Aside0.mk (Kd.R_below (kr_ HO816.out) hb); replace HO823 := Aside0.mk (Kd.R_below (kr_ HO823.out) hb); replace HO827 := Aside0.mk (Kd.R_below (kr_ HO827.out) hb); replace BK803 := kq_ BK803 hb; replace BK804 := kq_ BK804 hb; replace BK818 := kq_ BK818 hb; replace BK819 := kq_ BK819 hb; replace BK829 := kq_ BK829 hb; replace HB := bq_ HB hb; clear hb hbox hg; have hnb53 := NB829_803.out; have hnc53 := NB803_829.out; have hnb54 := NB829_804.out; have hnc54 := NB804_829.out; have hnb55 := NB829_818.out; have hnc55 := NB818_829.out; have hnb56 := NB829_819.out; have hnc56 := NB819_829.out; have hnb57 := NB829_830.out; have hnc57 := NB830_829.out; obtain ⟨hcz58_0, hcz58_1, hfz58_0, hfz58_1⟩ := c2_ BK829; obtain ⟨Ao59, co59, eo59⟩ := Kd.R_slice HO823.out; subst eo59; have hnb60 := NB830_803.out; have hnc60 := NB803_830.out; have hnb61 := NB830_804.out; have hnc61 := NB804_830.out; have hnb62 := NB830_818.out; have hnc62 := NB818_830.out; have hnb63 := NB830_819.out; have hnc63 := NB819_830.out; obtain ⟨hcz64_0, hcz64_1, hfz64_0, hfz64_1⟩ := c2_ BK830; obtain ⟨Ao65, co65, eo65⟩ := Kd.R_slice HO827.out; subst eo65; obtain ⟨hcz66_0, hcz66_1, hfz66_0, hfz66_1⟩ := c2_ BK818) | ((with_reducible refine gate_callee (f := 13) rfl ?_); refine gl_ (some 70) Try.func13 #[.agg #[.bool t809, .slice Ao43 t810.length co43], .agg #[.bool t820, .slice Ao59 t821.length co59]] ?_; (with_reducible refine (pelorusref02_Alike.calls k2 t809 _ _ t810 t820 _ _ t821 true _ ?side1 ?side2 ?side3 ?side4 A25.out).mono ?_); (case side1 => refine (Kd.R_reads' (e := 47) (base := w.heap.size) (ok := fun k_ => ((some k_ ≠ (.slice Ao47 t814.length co47 : Value).ownBlock ∧ some k_ ≠ (.slice Ao59 t821.length co59 : Value).ownBlock) ∧ some k_ ≠ (.slice Ao65 t825.length co65 : Value).ownBlock)) (n := t810.length) (c := co43) ?_).2.2; exact (kr_ ((Kd.R_mono (Kd.R_mono (Kd.R_far (p := ⟨gb830, 1, none⟩) (Kd.R_far (p := ⟨gb830, 0, none⟩) (Kd.R_far (p := ⟨gb829, 1, none⟩) (Kd.R_far (p := ⟨gb829, 0, none⟩) (Kd.R_types (Kd.R_types HO812.out BK829.out (by decide)) BK830.out (by decide)) (fun _ hk => hk.1.2) (.bool t820)) (fun _ hk => hk.1.2) (.slice Ao59 t821.length co59)) (fun _ hk => hk.2) (.bool t824)) (fun _ hk => hk.2) (.slice Ao65 t825.length co65)) (fun _ h_ => h_.1)) (fun _ h_ => h_.1))))); (case side2 => exact (Kd.R_reads' HO812.out).2.1); (case side3 => refine (Kd.R_reads' (e := 47) (base := w.heap.size) (ok := fun k_ => ((some k_ ≠ (.slice Ao65 t825.length co65 : Value).ownBlock ∧ some k_ ≠ (.slice Ao43 t810.length co43 : Value).ownBlock) ∧ some k_ ≠ (.slice Ao47 t814.length co47 : Value).ownBlock)) (n := t821.length) (c := co59) ?_).2.2; exact (kr_ ((Kd.R_mono (Kd.R_mono (Kd.R_far (p := ⟨gb830, 1, none⟩) (Kd.R_far (p := ⟨gb830, 0, none⟩) (Kd.R_far (p := ⟨gb829, 1, none⟩) (Kd.R_far (p := ⟨gb829, 0, none⟩) (Kd.R_types (Kd.R_types HO823.out BK829.out (by decide)) BK830.out (by decide)) (fun _ hk => hk.1.2) (.bool t820)) (fun _ hk => hk.1.2) (.slice Ao59 t821.length co59)) (fun _ hk => hk.2) (.bool t824)) (fun _ hk => hk.2) (.slice Ao65 t825.length co65)) (fun _ h_ => h_.1)) (fun _ h_ => h_.1))))); (case side4 => exact (Kd.R_reads' HO823.out).2.1); rintro e w67 ⟨rfl, hb⟩; refine ⟨_, rfl, ?_⟩; have n0_ := Aside0.mk (Kd.R_below (kr_ ((Kd.R_mono (Kd.R_mono (Kd.R_far (p := ⟨gb830, 1, none⟩) (Kd.R_far (p := ⟨gb830, 0, none⟩) (Kd.R_far (p := ⟨gb829, 1, none⟩) (Kd.R_far (p := ⟨gb829, 0, none⟩) (Kd.R_types (Kd.R_types HO812.out BK829.out (by decide)) BK830.out (by decide)) (fun _ hk => hk.1.2) (.bool t820)) (fun _ hk => hk.1.2) (.slice Ao59 t821.length co59)) (fun _ hk => hk.2) (.bool t824)) (fun _ hk => hk.2) (.slice Ao65 t825.length co65)) (fun _ h_ => h_.1)) (fun _ h_ => h_.1)))) hb); have n1_ := Aside0.mk (Kd.R_below (kr_ ((Kd.R_mono (Kd.R_mono (Kd.R_far (p := ⟨gb830, 1, none⟩) (Kd.R_far (p := ⟨gb830, 0, none⟩) (Kd.R_far (p := ⟨gb829, 1, none⟩) (Kd.R_far (p := ⟨gb829, 0, none⟩) (Kd.R_types (Kd.R_types HO816.out BK829.out (by decide)) BK830.out (by decide)) (fun _ hk => hk.1.2) (.bool t820)) (fun _ hk => hk.1.2) (.slice Ao59 t821.length co59)) (fun _ hk => hk.2) (.bool t824)) (fun _ hk => hk.2) (.slice Ao65 t825.length co65)) (fun _ h_ => h_.1)) (fun _ h_ => h_.1)))) hb); have n2_ := Aside0.mk (Kd.R_below (kr_ ((Kd.R_mono (Kd.R_mono (Kd.R_far (p := ⟨gb830, 1, none⟩) (Kd.R_far (p := ⟨gb830, 0, none⟩) (Kd.R_far (p := ⟨gb829, 1, none⟩) (Kd.R_far (p := ⟨gb829, 0, none⟩) (Kd.R_types (Kd.R_types HO823.out BK829.out (by decide)) BK830.out (by decide)) (fun _ hk => hk.1.2) (.bool t820)) (fun _ hk => hk.1.2) (.slice Ao59 t821.length co59)) (fun _ hk => hk.2) (.bool t824)) (fun _ hk => hk.2) (.slice Ao65 t825.length co65)) (fun _ h_ => h_.1)) (fun _ h_ => h_.1)))) hb); have n3_ := Aside0.mk (Kd.R_below (kr_ ((Kd.R_mono (Kd.R_mono (Kd.R_far (p := ⟨gb830, 1, none⟩) (Kd.R_far (p := ⟨gb830, 0, none⟩) (Kd.R_far (p := ⟨gb829, 1, none⟩) (Kd.R_far (p := ⟨gb829, 0, none⟩) (Kd.R_types (Kd.R_types HO827.out BK829.out (by decide)) BK830.out (by decide)) (fun _ hk => hk.1.2) (.bool t820)) (fun _ hk => hk.1.2) (.slice Ao59 t821.length co59)) (fun _ hk => hk.2) (.bool t824)) (fun _ hk => hk.2) (.slice Ao65 t825.length co65)) (fun _ h_ => h_.1)) (fun _ h_ => h_.1)))) hb); have n4_ := Aside0.mk (blk_below (g := gb803) (o := .cells #[.bool a0_0, .slice A0_1 l0_1.length c0_1] 24 (0, 0)) (by refine kb_ ?_; refine bf_ NB803_830 ?_; refine bf_ NB803_830 ?_; refine bf_ NB803_829 ?_; refine bf_ NB803_829 ?_; exact BK803.out) hb); have n5_ := Aside0.mk (blk_below (g := gb804) (o := .cells #[.bool a1_0, .slice A1_1 l1_1.length c1_1] 24 (0, 0)) (by refine kb_ ?_; refine bf_ NB804_830 ?_; refine bf_ NB804_830 ?_; refine bf_ NB804_829 ?_; refine bf_ NB804_829 ?_; exact BK804.out) hb); have n6_ := Aside0.mk (blk_below (g := gb818) (o := .cells #[.bool t809, .slice Ao43 t810.length co43] 24 (0, 0)) (by refine kb_ ?_; refine bf_ NB818_830 ?_; refine bf_ NB818_830 ?_; refine bf_ NB818_829 ?_; refine bf_ NB818_829 ?_; exact BK818.out) hb); have n7_ := Aside0.mk (blk_below (g := gb819) (o := .cells #[.bool t813, .slice Ao47 t814.length co47] 24 (0, 0)) (by refine kb_ ?_; refine bf_ NB819_830 ?_; refine bf_ NB819_830 ?_; refine bf_ NB819_829 ?_; refine bf_ NB819_829 ?_; exact BK819.out) hb); have n8_ := Aside0.mk (blk_below (g := gb829) (o := .cells #[.bool t820, .slice Ao59 t821.length co59] 24 (0, 0)) (by refine kb_ ?_; refine bf_ NB829_830 ?_; refine bf_ NB829_830 ?_; refine bp_ #[.bool t820, .slice none 0 0] 1 ?_; refine bp_ #[.bool false, .slice none 0 0] 0 ?_; exact BK829.out) hb); have n9_ := Aside0.mk (blk_below (g := gb830) (o := .cells #[.bool t824, .slice Ao65 t825.length co65] 24 (0, 0)) (by refine kb_ ?_; refine bp_ #[.bool t824, .slice none 0 0] 1 ?_; refine bp_ #[.bool false, .slice none 0 0] 0 ?_; refine bf_ NB830_829 ?_; refine bf_ NB830_829 ?_; exact BK830.out) hb); have n10_ := bq_ HB hb; clear HO812; clear HO816; clear HO823; clear HO827; clear BK803; clear BK804; clear BK818; clear BK819; clear BK829; clear BK830; clear HB; have HO812 := n0_; have HO816 := n1_; have HO823 := n2_; have HO827 := n3_; have BK803 := n4_; have BK804 := n5_; have BK818 := n6_; have BK819 := n7_; have BK829 := n8_; have BK830 := n9_; have HB := n10_; clear n0_ n1_ n2_ n3_ n4_ n5_ n6_ n7_ n8_ n9_ n10_; (try clear hb); (try clear hb2); (try clear hk); (try clear hi); obtain ⟨hcz68_0, hcz68_1, hfz68_0, hfz68_1⟩ := c2_ BK819; obtain ⟨hcz69_0, hcz69_1, hfz69_0, hfz69_1⟩ := c2_ BK830) | ((with_reducible refine gate_callee (f := 13) rfl ?_); refine gl_ (some 73) Try.func13 #[.agg #[.bool t813, .slice Ao47 t814.length co47], .agg #[.bool t824, .slice Ao65 t825.length co65]] ?_; (with_reducible refine (pelorusref02_Alike.calls k2 t813 _ _ t814 t824 _ _ t825 true _ ?side1 ?side2 ?side3 ?side4 A26.out).mono ?_); (case side1 => exact kc_ (Kd.R_reads' HO816.out).2.2); (case side2 => exact (Kd.R_reads' HO816.out).2.1); (case side3 => exact kc_ (Kd.R_reads' HO827.out).2.2); (case side4 => exact (Kd.R_reads' HO827.out).2.1); rintro e w70 ⟨rfl, hb⟩; refine ⟨_, rfl, ?_⟩; replace HO812 := Aside0.mk (Kd.R_below (kr_ HO812.out) hb); replace HO816 := Aside0.mk (Kd.R_below (kr_ HO816.out) hb); replace HO823 := Aside0.mk (Kd.R_below (kr_ HO823.out) hb); replace HO827 := Aside0.mk (Kd.R_below (kr_ HO827.out) hb); replace BK803 := kq_ BK803 hb; replace BK804 := kq_ BK804 hb; replace BK818 := kq_ BK818 hb; replace BK819 := kq_ BK819 hb; replace BK829 := kq_ BK829 hb; replace BK830 := kq_ BK830 hb; replace HB := bq_ HB hb; (try clear hb); (try clear hb2); (try clear hk); (try clear hi)) | ((with_reducible refine gate_callee (f := 14) rfl ?_); refine gl_ (some 75) Try.func14 #[.slice A2 l2.length c2] ?_; (with_reducible refine (whole_Mul.calls k2 _ _ l2 t833 t834 _ ?side1 ?side2 A27.out).mono ?_); (case side1 => exact kc_ (Kd.C_below HR2.out HB.out)); (case side2 => exact HC2.out); rintro e w71 ⟨v835, rfl, ho0, hb⟩; refine ⟨_, rfl, ?_⟩; have HO836 := Aside0.mk (Kd.R_lower (Kd.R_new' (Kd.R_new' (Kd.R_new' (Kd.R_new' ho0 (Kd.R_lt (kr_ HO812.out))) (Kd.R_lt (kr_ HO816.out))) (Kd.R_lt (kr_ HO823.out))) (Kd.R_lt (kr_ HO827.out))) (below_size (bw_ HB.out))); replace HO812 := Aside0.mk (Kd.R_elder' (kr_ HO812.out) (Kd.R_base ho0) hb); replace HO816 := Aside0.mk (Kd.R_elder' (kr_ HO816.out) (Kd.R_base ho0) hb); replace HO823 := Aside0.mk (Kd.R_elder' (kr_ HO823.out) (Kd.R_base ho0) hb); replace HO827 := Aside0.mk (Kd.R_elder' (kr_ HO827.out) (Kd.R_base ho0) hb); replace BK803 := kq_ BK803 hb; replace BK804 := kq_ BK804 hb; replace BK818 := kq_ BK818 hb; replace BK819 := kq_ BK819 hb; replace BK829 := kq_ BK829 hb; replace BK830 := kq_ BK830 hb; replace HB := bq_ HB hb; (try clear hb); (try clear hb2); (try clear hk); (try clear hi); (try clear ho0)) | ((with_reducible refine gate_callee (f := 15) rfl ?_); refine gl_ (some 77) Try.func15 #[.slice A2 l2.length c2] ?_; (with_reducible refine (pelorusref02_Mul.calls k2 _ _ l2 t837 t838 _ ?side1 ?side2 A28.out).mono ?_); (case side1 => exact kc_ (Kd.C_below HR2.out HB.out)); (case side2 => exact HC2.out); rintro e w72 ⟨v839, rfl, ho0, hb⟩; refine ⟨_, rfl, ?_⟩; have HO840 := Aside0.mk (Kd.R_lower (Kd.R_new' (Kd.R_new' (Kd.R_new' (Kd.R_new' (Kd.R_new' ho0 (Kd.R_lt (kr_ HO812.out))) (Kd.R_lt (kr_ HO816.out))) (Kd.R_lt (kr_ HO823.out))) (Kd.R_lt (kr_ HO827.out))) (Kd.R_lt (kr_ HO836.out))) (below_size (bw_ HB.out))); replace HO812 := Aside0.mk (Kd.R_elder' (kr_ HO812.out) (Kd.R_base ho0) hb); replace HO816 := Aside0.mk (Kd.R_elder' (kr_ HO816.out) (Kd.R_base ho0) hb); replace HO823 := Aside0.mk (Kd.R_elder' (kr_ HO823.out) (Kd.R_base ho0) hb); replace HO827 := Aside0.mk (Kd.R_elder' (kr_ HO827.out) (Kd.R_base ho0) hb); replace HO836 := Aside0.mk (Kd.R_elder' (kr_ HO836.out) (Kd.R_base ho0) hb); replace BK803 := kq_ BK803 hb; replace BK804 := kq_ BK804 hb; replace BK818 := kq_ BK818 hb; replace BK819 := kq_ BK819 hb; replace BK829 := kq_ BK829 hb; replace BK830 := kq_ BK830 hb; replace HB := bq_ HB hb; (try clear hb); (try clear hb2); (try clear hk); (try clear hi); (try clear ho0); obtain ⟨Ao73, co73, eo73⟩ := Kd.R_slice HO836.out; subst eo73; obtain ⟨Ao74, co74, eo74⟩ := Kd.R_slice HO840.out; subst eo74) | ((with_reducible refine gate_callee (f := 13) rfl ?_); refine gl_ (some 78) Try.func13 #[.agg #[.bool t833, .slice Ao73 t834.length co73], .agg #[.bool t837, .slice Ao74 t838.length co74]] ?_; (with_reducible refine (pelorusref02_Alike.calls k2 t833 _ _ t834 t837 _ _ t838 true _ ?side1 ?side2 ?side3 ?side4 A29.out).mono ?_); (case side1 => exact kc_ (Kd.R_reads' HO836.out).2.2); (case side2 => exact (Kd.R_reads' HO836.out).2.1); (case side3 => exact kc_ (Kd.R_reads' HO840.out).2.2); (case side4 => exact (Kd.R_reads' HO840.out).2.1); rintro e w75 ⟨rfl, hb⟩; refine ⟨_, rfl, ?_⟩; replace HO812 := Aside0.mk (Kd.R_below (kr_ HO812.out) hb); replace HO816 := Aside0.mk (Kd.R_below (kr_ HO816.out) hb); replace HO823 := Aside0.mk (Kd.R_below (kr_ HO823.out) hb); replace HO827 := Aside0.mk (Kd.R_below (kr_ HO827.out) hb); replace HO836 := Aside0.mk (Kd.R_below (kr_ HO836.out) hb); replace HO840 := Aside0.mk (Kd.R_below (kr_ HO840.out) hb); replace BK803 := kq_ BK803 hb; replace BK804 := kq_ BK804 hb; replace BK818 := kq_ BK818 hb; replace BK819 := kq_ BK819 hb; replace BK829 := kq_ BK829 hb; replace BK830 := kq_ BK830 hb; replace HB := bq_ HB hb; (try clear hb); (try clear hb2); (try clear hk); (try clear hi)))
          go_ret
          exact ⟨rf_, bw_ HB.out⟩
         ·replace c32 := Bool.eq_false_iff.mpr c32
          subst c32
          have H1 : (some false) = some r := by rw [if_neg (show ¬ (false = true) by decide)] at H; exact H
          clear H
          have H := H1
          clear H1
          exact absurd ((Option.some.inj H).trans HRT_.out) (by simp)
        ·replace c31 := Bool.eq_false_iff.mpr c31
         subst c31
         have H1 : (some false) = some r := by rw [if_neg (show ¬ (false = true) by decide)] at H; exact H
         clear H
         have H := H1
         clear H1
         exact absurd ((Option.some.inj H).trans HRT_.out) (by simp)
       ·replace c30 := Bool.eq_false_iff.mpr c30
        subst c30
        have H1 : (some false) = some r := by rw [if_neg (show ¬ (false = true) by decide)] at H; exact H
        clear H
        have H := H1
        clear H1
        exact absurd ((Option.some.inj H).trans HRT_.out) (by simp)


end Go.Proofs.Ytbejmpocgnldnaa.PA
