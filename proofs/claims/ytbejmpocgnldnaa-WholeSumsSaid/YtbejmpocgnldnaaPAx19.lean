-- Laid by this work's own program; Lean checks it.
import Derived.Test.YtbejmpocgnldnaaPAx0
import Derived.Test.YtbejmpocgnldnaaPAx1
import Derived.Test.YtbejmpocgnldnaaPAx2
import Derived.Test.YtbejmpocgnldnaaPAx4
import Derived.Test.YtbejmpocgnldnaaPAx9
import Derived.Test.YtbejmpocgnldnaaPAx11
import Derived.Test.YtbejmpocgnldnaaPAx13
import Derived.Test.YtbejmpocgnldnaaPAx17
namespace Go.Proofs.Ytbejmpocgnldnaa.PA
open Go.RowKit Go.Proofs.YtbejmpocgnldnaaW.PrintWords Go.Proofs.YtbejmpocgnldnaaW.PrintLast Go.Proofs.YtbejmpocgnldnaaW.PrintMore
attribute [local go_sem] max2_int min2_int max_two min_two max_three min_three max_four min_four   -- for this text's walks alone
set_option linter.unusedVariables false
set_option linter.unusedSimpArgs false

attribute [local go_sem ↓ high] isSome_set_
/-! ### peloruslaw02_WholeSums: function 7 -/
theorem peloruslaw02_WholeSums.tab6 : rtab .any (opsOf Try.f7 6) = peloruslaw02_WholeSums.T6 := by kernel_rfl
theorem peloruslaw02_WholeSums.bits6 : waitsOk peloruslaw02_WholeSums.T6.2 peloruslaw02_WholeSums.B6 = true := by kernel_rfl
def peloruslaw02_WholeSums.T7 : Bool × List (List Nat × List Nat) := (true, [([], []), ([], []), ([0, 1], [0, 1]), ([], []), ([], []), ([3, 4, 2], [3, 4]), ([2, 5, 5], [2, 5]), ([6, 6, 0, 1, 2, 3, 4, 5, 6], [6])])
def peloruslaw02_WholeSums.B7 : List Nat := [0, 0, 3, 0, 0, 31, 63, 127]
theorem peloruslaw02_WholeSums.tab7 : rtab .any (opsOf Try.f7 7) = peloruslaw02_WholeSums.T7 := by kernel_rfl
theorem peloruslaw02_WholeSums.bits7 : waitsOk peloruslaw02_WholeSums.T7.2 peloruslaw02_WholeSums.B7 = true := by kernel_rfl
def peloruslaw02_WholeSums.T10 : Bool × List (List Nat × List Nat) := (true, [([], []), ([0], [0]), ([1], [1]), ([1, 2], [1, 2]), ([3, 1], [3]), ([4], [4]), ([4, 5], [4, 5]), ([6, 4], [6]), ([7], [7]), ([7], [7]), ([8, 9, 7, 7], [7, 8, 9]), ([7], [7]), ([10, 11, 7], [7, 10, 11]), ([7, 12], [7, 12]), ([13, 10], [13]), ([14], [14]), ([14], [14]), ([15, 16, 14, 14], [14, 15, 16]), ([14], [14]), ([18, 14], [14, 18]), ([17, 19, 14], [14, 17, 19]), ([14, 20], [14, 20]), ([21, 17], [21]), ([22], [22]), ([23, 22, 22], [22, 23]), ([22], [22]), ([25, 24, 22], [22, 25]), ([24, 26, 22], [22, 24, 26]), ([22, 27], [22, 27]), ([28, 26, 0, 1, 2, 3, 4, 5, 6, 7, 8, 9, 10, 11, 12, 13, 14, 15, 16, 17, 18, 19, 20, 21, 22, 23, 24, 25, 26, 27, 28], [28])])
def peloruslaw02_WholeSums.B10 : List Nat := [0, 1, 3, 7, 15, 31, 63, 127, 255, 255, 1023, 255, 4095, 8191, 16383, 32767, 32767, 131071, 32767, 294911, 1048575, 2097151, 4194303, 8388607, 16777215, 8388607, 67108863, 134217727, 268435455, 536870911]
theorem peloruslaw02_WholeSums.tab10 : rtab .any (opsOf Try.f7 10) = peloruslaw02_WholeSums.T10 := by kernel_rfl
theorem peloruslaw02_WholeSums.bits10 : waitsOk peloruslaw02_WholeSums.T10.2 peloruslaw02_WholeSums.B10 = true := by kernel_rfl
set_option maxHeartbeats 8000000 in
set_option maxRecDepth 100000 in
theorem peloruslaw02_WholeSums.calls (k : Nat) (a0_0 : Bool) (A0_1 : Option Addr) (c0_1 : Nat) (l0_1 : List Int) (a1_0 : Bool) (A1_1 : Option Addr) (c1_1 : Nat) (l1_1 : List Int) (r : Bool) (w : World) (hr0_1 : Kd.C (Kd.int .u32) w A0_1 l0_1.length l0_1) (hc0_1 : l0_1.length ≤ c0_1) (hr1_1 : Kd.C (Kd.int .u32) w A1_1 l1_1.length l1_1) (hc1_1 : l1_1.length ≤ c1_1) (hr_ : r = true) (haw_ : ∀ r, peloruslaw02_awake.f k = some r → r = true) (h : peloruslaw02_WholeSums.f k a0_0 l0_1 a1_0 l1_1 = some r) :
  Calls Try.prog 7 #[.agg #[.bool a0_0, .slice A0_1 l0_1.length c0_1], .agg #[.bool a1_0, .slice A1_1 l1_1.length c1_1]] w fun e w' => e = .returned (.bool r) ∧ Below w.heap.size w w' := by
 have HRT_ := Aside0.mk hr_
 clear hr_
 have HAW_ := Aside0.mk haw_
 clear haw_
 have hu24 := Try.underlying24
 have HR0_1 := Aside0.mk hr0_1
 have HC0_1 := Aside0.mk hc0_1
 clear hr0_1 hc0_1
 have HR1_1 := Aside0.mk hr1_1
 have HC1_1 := Aside0.mk hc1_1
 clear hr1_1 hc1_1
 have HB := Aside0.mk (Below.refl w.heap.size w)
 have H : ((peloruslaw02_awake.f k).bind fun t651 => ((peloruslaw02_Few.f a0_0 l0_1).bind fun t652 => ((peloruslaw02_Few.f a1_0 l1_1).bind fun t653 => (if t651 = true then (if t652 = true then (peloruslaw02_WholeSums.j0 k t651 (!t653) a0_0 l0_1 a1_0 l1_1) else (peloruslaw02_WholeSums.j0 k t651 true a0_0 l0_1 a1_0 l1_1)) else (peloruslaw02_WholeSums.j0 k t651 true a0_0 l0_1 a1_0 l1_1))))) = some r := h
 clear h
 replace H := Option.bind_eq_some_iff.mp H
 obtain ⟨t651, A30, H⟩ := H
 (try dsimp only at H)
 have A3 := Aside0.mk A30
 clear A30
 replace H := Option.bind_eq_some_iff.mp H
 obtain ⟨t652, A40, H⟩ := H
 (try dsimp only at H)
 have A4 := Aside0.mk A40
 clear A40
 replace H := Option.bind_eq_some_iff.mp H
 obtain ⟨t653, A50, H⟩ := H
 (try dsimp only at H)
 have A5 := Aside0.mk A50
 clear A50
 have HC6 := Aside0.mk H
 clear H
 go_enter Try.func7, Try.ntmps7
 go_upto_region 4 with (first | ((with_reducible refine gate_dst (N := 2) rfl ?_); refine bx_ 2 #[.bool a0_0, .slice A0_1 l0_1.length c0_1] 24 ?_; intro gb649 hg w7 hbox hb; have BK649 := Aside0.mk (hbox); have GW649 := ge_ hg HB; have GE649 := ge_ hg HB; replace HB := bq_ HB hb; clear hb hbox hg) | ((with_reducible refine gate_dst (N := 3) rfl ?_); refine bx_ 3 #[.bool a1_0, .slice A1_1 l1_1.length c1_1] 24 ?_; intro gb650 hg w8 hbox hb; have BK650 := Aside0.mk (hbox); have GW650 := ge_ hg HB; have GE650 := ge_ hg HB; have NB649_650 := nb_ hg BK649; have NB650_649 := nc_ hg BK649; replace BK649 := kq_ BK649 hb; replace HB := bq_ HB hb; clear hb hbox hg) | ((with_reducible refine gate_callee (f := 9) rfl ?_); refine gl_ (some 12) Try.func9 #[] ?_; (with_reducible refine (peloruslaw02_awake.calls k  t651 _ (HAW_.out _ A3.out) A3.out).mono ?_); rintro e w9 ⟨rfl, hb⟩; refine ⟨_, rfl, ?_⟩; replace BK649 := kq_ BK649 hb; replace BK650 := kq_ BK650 hb; replace HB := bq_ HB hb; (try clear hb); (try clear hb2); (try clear hk); (try clear hi); have hnb10 := NB649_650.out; have hnc10 := NB650_649.out; obtain ⟨hcz11_0, hcz11_1, hfz11_0, hfz11_1⟩ := c2_ BK649) | ((with_reducible refine gate_callee (f := 10) rfl ?_); refine gl_ (some 14) Try.func10 #[.agg #[.bool a0_0, .slice A0_1 l0_1.length c0_1]] ?_; (with_reducible refine (peloruslaw02_Few.calls a0_0 _ _ l0_1 t652 _ ?side1 ?side2 A4.out).mono ?_); (case side1 => repeat (first | exact (Kd.C_below HR0_1.out HB.out) | (with_reducible refine Kd.C_alloc ?_ _) | (with_reducible refine Kd.C_drewN ?_ _) | (with_reducible refine Kd.C_drew ?_))); (case side2 => exact HC0_1.out); rintro e w12 ⟨rfl, hb⟩; refine ⟨_, rfl, ?_⟩; replace BK649 := kq_ BK649 hb; replace BK650 := kq_ BK650 hb; replace HB := bq_ HB hb; (try clear hb); (try clear hb2); (try clear hk); (try clear hi); obtain ⟨hcz13_0, hcz13_1, hfz13_0, hfz13_1⟩ := c2_ BK650) | ((with_reducible refine gate_callee (f := 10) rfl ?_); refine gl_ (some 16) Try.func10 #[.agg #[.bool a1_0, .slice A1_1 l1_1.length c1_1]] ?_; (with_reducible refine (peloruslaw02_Few.calls a1_0 _ _ l1_1 t653 _ ?side1 ?side2 A5.out).mono ?_); (case side1 => repeat (first | exact (Kd.C_below HR1_1.out HB.out) | (with_reducible refine Kd.C_alloc ?_ _) | (with_reducible refine Kd.C_drewN ?_ _) | (with_reducible refine Kd.C_drew ?_))); (case side2 => exact HC1_1.out); rintro e w14 ⟨rfl, hb⟩; refine ⟨_, rfl, ?_⟩; replace BK649 := kq_ BK649 hb; replace BK650 := kq_ BK650 hb; replace HB := bq_ HB hb; (try clear hb); (try clear hb2); (try clear hk); (try clear hi)))
 (try simp only [Act.put, List.setIfInBounds_toArray, List.set_cons_zero, List.set_cons_succ])
 go_cut [26] (fun v26 wc => ∃ (kq : Nat) (x26_5 : Bool), v26 = .bool x26_5 ∧ Aside0 (peloruslaw02_WholeSums.j0 kq t651 x26_5 a0_0 l0_1 a1_0 l1_1 = some r) ∧ Aside0 (kq ≤ k) ∧ Aside0 (wc.heap[gb649]? = some (.cells #[.bool a0_0, (.slice A0_1 l0_1.length c0_1)] 24 (0, 0))) ∧ Aside0 (wc.heap[gb650]? = some (.cells #[.bool a1_0, (.slice A1_1 l1_1.length c1_1)] 24 (0, 0))) ∧ Aside0 (Below w.heap.size w wc))
 case first =>
  have H := HC6.out
  clear HC6
  by_cases c15 : t651 = true
  ·subst c15
   have H1 : (if t652 = true then (peloruslaw02_WholeSums.j0 k true (!t653) a0_0 l0_1 a1_0 l1_1) else (peloruslaw02_WholeSums.j0 k true true a0_0 l0_1 a1_0 l1_1)) = some r := by rw [if_pos rfl] at H; exact H
   clear H
   have H := H1
   clear H1
   by_cases c16 : t652 = true
   ·subst c16
    have H1 : (peloruslaw02_WholeSums.j0 k true (!t653) a0_0 l0_1 a1_0 l1_1) = some r := by rw [if_pos rfl] at H; exact H
    clear H
    have H := H1
    clear H1
    have H' := Aside0.mk H
    clear H
    go_wp2
    go_meet
    case rel => exact ⟨_, (!t653), (by first | rfl | (simp; done) | (simp [*]; done)), H', ⟨by first | omega | exact Nat.le_refl _⟩, ⟨kb_ BK649.out⟩, ⟨kb_ BK650.out⟩, ⟨bw_ HB.out⟩⟩
   ·replace c16 := Bool.eq_false_iff.mpr c16
    subst c16
    have H1 : (peloruslaw02_WholeSums.j0 k true true a0_0 l0_1 a1_0 l1_1) = some r := by rw [if_neg (show ¬ (false = true) by decide)] at H; exact H
    clear H
    have H := H1
    clear H1
    have H' := Aside0.mk H
    clear H
    go_wp2
    go_meet
    case rel => exact ⟨_, (true), (by first | rfl | (simp; done) | (simp [*]; done)), H', ⟨by first | omega | exact Nat.le_refl _⟩, ⟨kb_ BK649.out⟩, ⟨kb_ BK650.out⟩, ⟨bw_ HB.out⟩⟩
  ·replace c15 := Bool.eq_false_iff.mpr c15
   subst c15
   have H1 : (peloruslaw02_WholeSums.j0 k false true a0_0 l0_1 a1_0 l1_1) = some r := by rw [if_neg (show ¬ (false = true) by decide)] at H; exact H
   clear H
   have H := H1
   clear H1
   have H' := Aside0.mk H
   clear H
   go_wp2
   go_meet
   case rel => exact ⟨_, (true), (by first | rfl | (simp; done) | (simp [*]; done)), H', ⟨by first | omega | exact Nat.le_refl _⟩, ⟨kb_ BK649.out⟩, ⟨kb_ BK650.out⟩, ⟨bw_ HB.out⟩⟩
 case rest =>
  clear HC6
  try clear c1
  try clear p2
  try clear c7
  try clear c9
  try clear c10
  try clear c15
  try clear c16
  try clear hcz11_0 hcz11_1
  try clear hcz13_0 hcz13_1
  try clear hfz11_0 hfz11_1
  try clear hfz13_0 hfz13_1
  obtain ⟨kq, x26_5, rfl, HA, HJ5, BK649, BK650, HB⟩ := hcut
  cases kq with
  | zero => exact absurd HA.out (by simp [peloruslaw02_WholeSums.j0])
  | succ kj5 =>
   have H := HA.out
   clear HA
   simp only [peloruslaw02_WholeSums.j0] at H
   by_cases c17 : x26_5 = true
   ·subst c17
    have H1 : (some t651) = some r := by rw [if_pos rfl] at H; exact H
    clear H
    have H := H1
    clear H1
    obtain rfl := Option.some.inj H
    go_wp2
    go_ret
    exact ⟨rf_, bw_ HB.out⟩
   ·replace c17 := Bool.eq_false_iff.mpr c17
    subst c17
    have H1 : ((whole_Add.f kj5 a0_0 l0_1 a1_0 l1_1).bind fun bt654 => ((pelorusref02_Add.f kj5 a0_0 l0_1 a1_0 l1_1).bind fun bt658 => ((pelorusref02_Alike.f kj5 bt654.1 bt654.2 bt658.1 bt658.2).bind fun t662 => ((whole_Sub.f kj5 a0_0 l0_1 a1_0 l1_1).bind fun bt663 => ((pelorusref02_Sub.f kj5 a0_0 l0_1 a1_0 l1_1).bind fun bt667 => ((pelorusref02_Alike.f kj5 bt663.1 bt663.2 bt667.1 bt667.2).bind fun t671 => ((whole_Neg.f kj5 a0_0 l0_1).bind fun bt672 => ((pelorusref02_Neg.f kj5 a0_0 l0_1).bind fun bt676 => ((pelorusref02_Alike.f kj5 bt672.1 bt672.2 bt676.1 bt676.2).bind fun t680 => ((pelorusref02_Cmp.f kj5 a0_0 l0_1 a1_0 l1_1).bind fun t681 => (if t662 = true then (if t671 = true then (if t680 = true then ((whole_Cmp.f kj5 a0_0 l0_1 a1_0 l1_1).bind fun t682 => (if t682 = t681 then ((whole_Same.f kj5 a0_0 l0_1 a1_0 l1_1).bind fun t683 => (if (t683 == (t681 == 0)) = true then ((whole_Sign.f kj5 a0_0 l0_1).bind fun t684 => ((pelorusref02_Sign.f kj5 a0_0 l0_1).bind fun t685 => (some (t684 == t685)))) else (some false))) else (some false))) else (some false)) else (some false)) else (some false)))))))))))) = some r := by rw [if_neg (show ¬ (false = true) by decide)] at H; exact H
    clear H
    have H := H1
    clear H1
    replace H := Option.bind_eq_some_iff.mp H
    obtain ⟨⟨t654, t655⟩, A180, H⟩ := H
    (try dsimp only at H)
    have A18 := Aside0.mk A180
    clear A180
    replace H := Option.bind_eq_some_iff.mp H
    obtain ⟨⟨t658, t659⟩, A190, H⟩ := H
    (try dsimp only at H)
    have A19 := Aside0.mk A190
    clear A190
    replace H := Option.bind_eq_some_iff.mp H
    obtain ⟨t662, A200, H⟩ := H
    (try dsimp only at H)
    have A20 := Aside0.mk A200
    clear A200
    replace H := Option.bind_eq_some_iff.mp H
    obtain ⟨⟨t663, t664⟩, A210, H⟩ := H
    (try dsimp only at H)
    have A21 := Aside0.mk A210
    clear A210
    replace H := Option.bind_eq_some_iff.mp H
    obtain ⟨⟨t667, t668⟩, A220, H⟩ := H
    (try dsimp only at H)
    have A22 := Aside0.mk A220
    clear A220
    replace H := Option.bind_eq_some_iff.mp H
    obtain ⟨t671, A230, H⟩ := H
    (try dsimp only at H)
    have A23 := Aside0.mk A230
    clear A230
    replace H := Option.bind_eq_some_iff.mp H
    obtain ⟨⟨t672, t673⟩, A240, H⟩ := H
    (try dsimp only at H)
    have A24 := Aside0.mk A240
    clear A240
    replace H := Option.bind_eq_some_iff.mp H
    obtain ⟨⟨t676, t677⟩, A250, H⟩ := H
    (try dsimp only at H)
    have A25 := Aside0.mk A250
    clear A250
    replace H := Option.bind_eq_some_iff.mp H
    obtain ⟨t680, A260, H⟩ := H
    (try dsimp only at H)
    have A26 := Aside0.mk A260
    clear A260
    replace H := Option.bind_eq_some_iff.mp H
    obtain ⟨t681, A270, H⟩ := H
    (try dsimp only at H)
    have A27 := Aside0.mk A270
    clear A270
    by_cases c28 : t662 = true
    ·subst c28
     have H1 : (if t671 = true then (if t680 = true then ((whole_Cmp.f kj5 a0_0 l0_1 a1_0 l1_1).bind fun t682 => (if t682 = t681 then ((whole_Same.f kj5 a0_0 l0_1 a1_0 l1_1).bind fun t683 => (if (t683 == (t681 == 0)) = true then ((whole_Sign.f kj5 a0_0 l0_1).bind fun t684 => ((pelorusref02_Sign.f kj5 a0_0 l0_1).bind fun t685 => (some (t684 == t685)))) else (some false))) else (some false))) else (some false)) else (some false)) = some r := by rw [if_pos rfl] at H; exact H
     clear H
     have H := H1
     clear H1
     by_cases c29 : t671 = true
     ·subst c29
      have H1 : (if t680 = true then ((whole_Cmp.f kj5 a0_0 l0_1 a1_0 l1_1).bind fun t682 => (if t682 = t681 then ((whole_Same.f kj5 a0_0 l0_1 a1_0 l1_1).bind fun t683 => (if (t683 == (t681 == 0)) = true then ((whole_Sign.f kj5 a0_0 l0_1).bind fun t684 => ((pelorusref02_Sign.f kj5 a0_0 l0_1).bind fun t685 => (some (t684 == t685)))) else (some false))) else (some false))) else (some false)) = some r := by rw [if_pos rfl] at H; exact H
      clear H
      have H := H1
      clear H1
      by_cases c30 : t680 = true
      ·subst c30
       have H1 : ((whole_Cmp.f kj5 a0_0 l0_1 a1_0 l1_1).bind fun t682 => (if t682 = t681 then ((whole_Same.f kj5 a0_0 l0_1 a1_0 l1_1).bind fun t683 => (if (t683 == (t681 == 0)) = true then ((whole_Sign.f kj5 a0_0 l0_1).bind fun t684 => ((pelorusref02_Sign.f kj5 a0_0 l0_1).bind fun t685 => (some (t684 == t685)))) else (some false))) else (some false))) = some r := by rw [if_pos rfl] at H; exact H
       clear H
       have H := H1
       clear H1
       replace H := Option.bind_eq_some_iff.mp H
       obtain ⟨t682, A310, H⟩ := H
       (try dsimp only at H)
       have A31 := Aside0.mk A310
       clear A310
       by_cases c32 : t682 = t681
       ·rw [if_pos c32] at H
        have c32b0 : (t682 == t681) = true := beq_iff_eq.mpr c32
        have c32b1 : (t682 != t681) = false := bne_eq_false_iff_eq.mpr c32
        clear c32
        replace H := Option.bind_eq_some_iff.mp H
        obtain ⟨t683, A330, H⟩ := H
        (try dsimp only at H)
        have A33 := Aside0.mk A330
        clear A330
        by_cases c34 : (t683 == (t681 == 0)) = true
        ·rw [if_pos c34] at H
         have c34b0 : (t683 == (t681 == 0)) = true := c34
         (try (have c34b1 : decide (t683 = (t681 == 0)) = true := by simpa using c34))
         (try (have c34b2 : (t683 == (t681 == 0)) = true := by simpa using c34))
         clear c34
         replace H := Option.bind_eq_some_iff.mp H
         obtain ⟨t684, A350, H⟩ := H
         (try dsimp only at H)
         have A35 := Aside0.mk A350
         clear A350
         replace H := Option.bind_eq_some_iff.mp H
         obtain ⟨t685, A360, H⟩ := H
         (try dsimp only at H)
         have A36 := Aside0.mk A360
         clear A360
         obtain rfl := Option.some.inj H
         try go_wp2
         replace BK649 := Aside0.mk (blk_drew BK649.out)
         replace BK650 := Aside0.mk (blk_drew BK650.out)
         replace HB := Aside0.mk (below_drew1 HB.out)
         refine start_ (n := 8) (S := fun w' => w'.cell? ⟨gb649, 0, none⟩ = some (.bool a0_0) ∧ w'.cell? ⟨gb649, 1, none⟩ = some (.slice A0_1 l0_1.length c0_1) ∧ w'.cell? ⟨gb650, 0, none⟩ = some (.bool a1_0) ∧ w'.cell? ⟨gb650, 1, none⟩ = some (.slice A1_1 l1_1.length c1_1)) (ds := []) #[false, false, false, false, false, false, false, false] (by kernel_rfl) rfl rfl ⟨(blk_cell BK649.out 0).trans rfl, (blk_cell BK649.out 1).trans rfl, (blk_cell BK650.out 0).trans rfl, (blk_cell BK650.out 1).trans rfl⟩ (fun hHeld => ?_); refine with_tabW peloruslaw02_WholeSums.tab6 peloruslaw02_WholeSums.bits6 (fun HT_ HW_ => ?_)
         generalize wc.drew = w37 at BK649 BK650 HB hHeld ⊢
         refine take_ (i := 0) (N := some 28) (v := ?_) (a' := ?_) #[true, false, false, false, false, false, false, false] rfl rfl (take_ofW HT_.out HW_.out (by kernel_rfl)) (fun _ _ _ h => h) (Or.inl ⟨by rfl, ?_⟩) hHeld ?_ ?_
         rotate_left
         ·rintro w' ⟨s0, s1, s2, s3⟩
          go_simp
          with_reducible rfl
         rotate_left
         ·exact pt_
         refine take_ (i := 1) (N := some 29) (v := ?_) (a' := ?_) #[true, true, false, false, false, false, false, false] rfl rfl (take_ofW HT_.out HW_.out (by kernel_rfl)) (fun _ _ _ h => h) (Or.inl ⟨by rfl, ?_⟩) hHeld ?_ ?_
         rotate_left
         ·rintro w' ⟨s0, s1, s2, s3⟩
          go_simp
          with_reducible rfl
         rotate_left
         ·exact pt_
         refine take_ (i := 3) (N := some 31) (v := ?_) (a' := ?_) #[true, true, false, true, false, false, false, false] rfl rfl (take_ofW HT_.out HW_.out (by kernel_rfl)) (fun _ _ _ h => h) (Or.inl ⟨by rfl, ?_⟩) hHeld ?_ ?_
         rotate_left
         ·rintro w' ⟨s0, s1, s2, s3⟩
          go_simp
          with_reducible rfl
         rotate_left
         ·exact pt_
         refine take_ (i := 4) (N := some 32) (v := ?_) (a' := ?_) #[true, true, false, true, true, false, false, false] rfl rfl (take_ofW HT_.out HW_.out (by kernel_rfl)) (fun _ _ _ h => h) (Or.inl ⟨by rfl, ?_⟩) hHeld ?_ ?_
         rotate_left
         ·rintro w' ⟨s0, s1, s2, s3⟩
          go_simp
          with_reducible rfl
         rotate_left
         ·exact pt_
         refine one_ (i := 2) (N := some 30) #[true, true, true, true, true, false, false, false] rfl rfl (one_of HT_.out (by kernel_rfl)) (by decide) (fun K hK => ?_)
         refine gs_ Try.func27 #[.agg #[.bool a0_0, .slice A0_1 l0_1.length c0_1], .agg #[.bool a1_0, .slice A1_1 l1_1.length c1_1]] ?_
         with_reducible refine (whole_Add.calls kj5 a0_0 _ _ l0_1 a1_0 _ _ l1_1 t654 t655 _ ?side1 ?side2 ?side3 ?side4 A18.out).mono ?_
         (case side1 => repeat (first | exact (Kd.C_below HR0_1.out HB.out) | (with_reducible refine Kd.C_alloc ?_ _) | (with_reducible refine Kd.C_drewN ?_ _) | (with_reducible refine Kd.C_drew ?_)))
         (case side2 => exact HC0_1.out)
         (case side3 => repeat (first | exact (Kd.C_below HR1_1.out HB.out) | (with_reducible refine Kd.C_alloc ?_ _) | (with_reducible refine Kd.C_drewN ?_ _) | (with_reducible refine Kd.C_drew ?_)))
         (case side4 => exact HC1_1.out)
         rintro e w38 ⟨v656, rfl, ho0, hb⟩
         refine ⟨_, rfl, ?_⟩
         have HO657 := Aside0.mk (Kd.R_lower ho0 (below_size (bw_ HB.out)))
         replace BK649 := kq_ BK649 hb
         replace BK650 := kq_ BK650 hb
         replace HB := bq_ HB hb
         (try clear hb)
         (try clear hb2)
         (try clear hk)
         (try clear hi)
         (try clear ho0)
         refine hK.out _ _ ⟨(blk_cell BK649.out 0).trans rfl, (blk_cell BK649.out 1).trans rfl, (blk_cell BK650.out 0).trans rfl, (blk_cell BK650.out 1).trans rfl⟩ (fun hHeld => ?_)
         clear hK K
         refine norm_ (a' := ?_) ?_ ?_
         rotate_left
         ·show Act.put _ (some 30) _ = _
          exact pt_
         refine one_ (i := 5) (N := some 33) #[true, true, true, true, true, true, false, false] rfl rfl (one_of HT_.out (by kernel_rfl)) (by decide) (fun K hK => ?_)
         refine gs_ Try.func29 #[.agg #[.bool a0_0, .slice A0_1 l0_1.length c0_1], .agg #[.bool a1_0, .slice A1_1 l1_1.length c1_1]] ?_
         with_reducible refine (pelorusref02_Add.calls kj5 a0_0 _ _ l0_1 a1_0 _ _ l1_1 t658 t659 _ ?side1 ?side2 ?side3 ?side4 A19.out).mono ?_
         (case side1 => repeat (first | exact (Kd.C_below HR0_1.out HB.out) | (with_reducible refine Kd.C_alloc ?_ _) | (with_reducible refine Kd.C_drewN ?_ _) | (with_reducible refine Kd.C_drew ?_)))
         (case side2 => exact HC0_1.out)
         (case side3 => repeat (first | exact (Kd.C_below HR1_1.out HB.out) | (with_reducible refine Kd.C_alloc ?_ _) | (with_reducible refine Kd.C_drewN ?_ _) | (with_reducible refine Kd.C_drew ?_)))
         (case side4 => exact HC1_1.out)
         rintro e w39 ⟨v660, rfl, ho0, hb⟩
         refine ⟨_, rfl, ?_⟩
         have HO661 := Aside0.mk (Kd.R_lower (Kd.R_new' ho0 (Kd.R_lt (kr_ HO657.out))) (below_size (bw_ HB.out)))
         replace HO657 := Aside0.mk (Kd.R_elder' (kr_ HO657.out) (Kd.R_base ho0) hb)
         replace BK649 := kq_ BK649 hb
         replace BK650 := kq_ BK650 hb
         replace HB := bq_ HB hb
         (try clear hb)
         (try clear hb2)
         (try clear hk)
         (try clear hi)
         (try clear ho0)
         obtain ⟨Ao40, co40, eo40⟩ := Kd.R_slice HO657.out
         (first | subst eo40 | (injection eo40 with f1_ f2_ f3_; have f4_ := f1_.symm; have f5_ := f3_.symm; clear f1_ f2_ f3_; subst f4_; subst f5_))
         obtain ⟨Ao41, co41, eo41⟩ := Kd.R_slice HO661.out
         (first | subst eo41 | (injection eo41 with f1_ f2_ f3_; have f4_ := f1_.symm; have f5_ := f3_.symm; clear f1_ f2_ f3_; subst f4_; subst f5_))
         refine hK.out _ _ ⟨(blk_cell BK649.out 0).trans rfl, (blk_cell BK649.out 1).trans rfl, (blk_cell BK650.out 0).trans rfl, (blk_cell BK650.out 1).trans rfl⟩ (fun hHeld => ?_)
         clear hK K
         refine norm_ (a' := ?_) ?_ ?_
         rotate_left
         ·show Act.put _ (some 33) _ = _
          exact pt_
         refine one_ (i := 6) (N := some 34) #[true, true, true, true, true, true, true, false] rfl rfl (one_of HT_.out (by kernel_rfl)) (by decide) (fun K hK => ?_)
         refine gs_ Try.func13 #[.agg #[.bool t654, .slice Ao40 t655.length co40], .agg #[.bool t658, .slice Ao41 t659.length co41]] ?_
         with_reducible refine (pelorusref02_Alike.calls kj5 t654 _ _ t655 t658 _ _ t659 true _ ?side1 ?side2 ?side3 ?side4 A20.out).mono ?_
         (case side1 => repeat (first | exact (Kd.R_reads' HO657.out).2.2 | (with_reducible refine Kd.C_alloc ?_ _) | (with_reducible refine Kd.C_drewN ?_ _) | (with_reducible refine Kd.C_drew ?_)))
         (case side2 => exact (Kd.R_reads' HO657.out).2.1)
         (case side3 => repeat (first | exact (Kd.R_reads' HO661.out).2.2 | (with_reducible refine Kd.C_alloc ?_ _) | (with_reducible refine Kd.C_drewN ?_ _) | (with_reducible refine Kd.C_drew ?_)))
         (case side4 => exact (Kd.R_reads' HO661.out).2.1)
         rintro e w42 ⟨rfl, hb⟩
         refine ⟨_, rfl, ?_⟩
         replace HO657 := Aside0.mk (Kd.R_below (kr_ HO657.out) hb)
         replace HO661 := Aside0.mk (Kd.R_below (kr_ HO661.out) hb)
         replace BK649 := kq_ BK649 hb
         replace BK650 := kq_ BK650 hb
         replace HB := bq_ HB hb
         (try clear hb)
         (try clear hb2)
         (try clear hk)
         (try clear hi)
         refine hK.out _ _ ⟨(blk_cell BK649.out 0).trans rfl, (blk_cell BK649.out 1).trans rfl, (blk_cell BK650.out 0).trans rfl, (blk_cell BK650.out 1).trans rfl⟩ (fun hHeld => ?_)
         clear hK K
         refine norm_ (a' := ?_) ?_ ?_
         rotate_left
         ·show Act.put _ (some 34) _ = _
          exact pt_
         refine pure_ (i := 7) (N := some 8) (v := ?_) (a' := ?_) #[true, true, true, true, true, true, true, true] rfl rfl (any_of HT_.out (by kernel_rfl)) (fun _ _ _ h => h) (Or.inl ⟨by rfl, ?_⟩) ?_ ?_
         rotate_left
         ·intro w'
          go_simp
          with_reducible rfl
         rotate_left
         ·exact pt_
         refine done_ (done_of HT_.out (by kernel_rfl)) ?_
         try go_wp2
         replace HO657 := Aside0.mk (Kd.R_drew HO657.out)
         replace HO661 := Aside0.mk (Kd.R_drew HO661.out)
         replace BK649 := Aside0.mk (blk_drew BK649.out)
         replace BK650 := Aside0.mk (blk_drew BK650.out)
         replace HB := Aside0.mk (below_drew1 HB.out)
         refine start_ (n := 8) (S := fun w' => w'.cell? ⟨gb649, 0, none⟩ = some (.bool a0_0) ∧ w'.cell? ⟨gb649, 1, none⟩ = some (.slice A0_1 l0_1.length c0_1) ∧ w'.cell? ⟨gb650, 0, none⟩ = some (.bool a1_0) ∧ w'.cell? ⟨gb650, 1, none⟩ = some (.slice A1_1 l1_1.length c1_1)) (ds := []) #[false, false, false, false, false, false, false, false] (by kernel_rfl) rfl rfl ⟨(blk_cell BK649.out 0).trans rfl, (blk_cell BK649.out 1).trans rfl, (blk_cell BK650.out 0).trans rfl, (blk_cell BK650.out 1).trans rfl⟩ (fun hHeld => ?_); refine with_tabW peloruslaw02_WholeSums.tab7 peloruslaw02_WholeSums.bits7 (fun HT_ HW_ => ?_)
         generalize w42.drew = w43 at HO657 HO661 BK649 BK650 HB hHeld ⊢
         refine take_ (i := 0) (N := some 35) (v := ?_) (a' := ?_) #[true, false, false, false, false, false, false, false] rfl rfl (take_ofW HT_.out HW_.out (by kernel_rfl)) (fun _ _ _ h => h) (Or.inl ⟨by rfl, ?_⟩) hHeld ?_ ?_
         rotate_left
         ·rintro w' ⟨s0, s1, s2, s3⟩
          go_simp
          with_reducible rfl
         rotate_left
         ·exact pt_
         refine take_ (i := 1) (N := some 36) (v := ?_) (a' := ?_) #[true, true, false, false, false, false, false, false] rfl rfl (take_ofW HT_.out HW_.out (by kernel_rfl)) (fun _ _ _ h => h) (Or.inl ⟨by rfl, ?_⟩) hHeld ?_ ?_
         rotate_left
         ·rintro w' ⟨s0, s1, s2, s3⟩
          go_simp
          with_reducible rfl
         rotate_left
         ·exact pt_
         refine take_ (i := 3) (N := some 38) (v := ?_) (a' := ?_) #[true, true, false, true, false, false, false, false] rfl rfl (take_ofW HT_.out HW_.out (by kernel_rfl)) (fun _ _ _ h => h) (Or.inl ⟨by rfl, ?_⟩) hHeld ?_ ?_
         rotate_left
         ·rintro w' ⟨s0, s1, s2, s3⟩
          go_simp
          with_reducible rfl
         rotate_left
         ·exact pt_
         refine take_ (i := 4) (N := some 39) (v := ?_) (a' := ?_) #[true, true, false, true, true, false, false, false] rfl rfl (take_ofW HT_.out HW_.out (by kernel_rfl)) (fun _ _ _ h => h) (Or.inl ⟨by rfl, ?_⟩) hHeld ?_ ?_
         rotate_left
         ·rintro w' ⟨s0, s1, s2, s3⟩
          go_simp
          with_reducible rfl
         rotate_left
         ·exact pt_
         refine one_ (i := 2) (N := some 37) #[true, true, true, true, true, false, false, false] rfl rfl (one_of HT_.out (by kernel_rfl)) (by decide) (fun K hK => ?_)
         refine gs_ Try.func28 #[.agg #[.bool a0_0, .slice A0_1 l0_1.length c0_1], .agg #[.bool a1_0, .slice A1_1 l1_1.length c1_1]] ?_
         with_reducible refine (whole_Sub.calls kj5 a0_0 _ _ l0_1 a1_0 _ _ l1_1 t663 t664 _ ?side1 ?side2 ?side3 ?side4 A21.out).mono ?_
         (case side1 => repeat (first | exact (Kd.C_below HR0_1.out HB.out) | (with_reducible refine Kd.C_alloc ?_ _) | (with_reducible refine Kd.C_drewN ?_ _) | (with_reducible refine Kd.C_drew ?_)))
         (case side2 => exact HC0_1.out)
         (case side3 => repeat (first | exact (Kd.C_below HR1_1.out HB.out) | (with_reducible refine Kd.C_alloc ?_ _) | (with_reducible refine Kd.C_drewN ?_ _) | (with_reducible refine Kd.C_drew ?_)))
         (case side4 => exact HC1_1.out)
         rintro e w44 ⟨v665, rfl, ho0, hb⟩
         refine ⟨_, rfl, ?_⟩
         have HO666 := Aside0.mk (Kd.R_lower (Kd.R_new' (Kd.R_new' ho0 (Kd.R_lt (kr_ HO657.out))) (Kd.R_lt (kr_ HO661.out))) (below_size (bw_ HB.out)))
         replace HO657 := Aside0.mk (Kd.R_elder' (kr_ HO657.out) (Kd.R_base ho0) hb)
         replace HO661 := Aside0.mk (Kd.R_elder' (kr_ HO661.out) (Kd.R_base ho0) hb)
         replace BK649 := kq_ BK649 hb
         replace BK650 := kq_ BK650 hb
         replace HB := bq_ HB hb
         (try clear hb)
         (try clear hb2)
         (try clear hk)
         (try clear hi)
         (try clear ho0)
         refine hK.out _ _ ⟨(blk_cell BK649.out 0).trans rfl, (blk_cell BK649.out 1).trans rfl, (blk_cell BK650.out 0).trans rfl, (blk_cell BK650.out 1).trans rfl⟩ (fun hHeld => ?_)
         clear hK K
         refine norm_ (a' := ?_) ?_ ?_
         rotate_left
         ·show Act.put _ (some 37) _ = _
          exact pt_
         refine one_ (i := 5) (N := some 40) #[true, true, true, true, true, true, false, false] rfl rfl (one_of HT_.out (by kernel_rfl)) (by decide) (fun K hK => ?_)
         refine gs_ Try.func30 #[.agg #[.bool a0_0, .slice A0_1 l0_1.length c0_1], .agg #[.bool a1_0, .slice A1_1 l1_1.length c1_1]] ?_
         with_reducible refine (pelorusref02_Sub.calls kj5 a0_0 _ _ l0_1 a1_0 _ _ l1_1 t667 t668 _ ?side1 ?side2 ?side3 ?side4 A22.out).mono ?_
         (case side1 => repeat (first | exact (Kd.C_below HR0_1.out HB.out) | (with_reducible refine Kd.C_alloc ?_ _) | (with_reducible refine Kd.C_drewN ?_ _) | (with_reducible refine Kd.C_drew ?_)))
         (case side2 => exact HC0_1.out)
         (case side3 => repeat (first | exact (Kd.C_below HR1_1.out HB.out) | (with_reducible refine Kd.C_alloc ?_ _) | (with_reducible refine Kd.C_drewN ?_ _) | (with_reducible refine Kd.C_drew ?_)))
         (case side4 => exact HC1_1.out)
         rintro e w45 ⟨v669, rfl, ho0, hb⟩
         refine ⟨_, rfl, ?_⟩
         have HO670 := Aside0.mk (Kd.R_lower (Kd.R_new' (Kd.R_new' (Kd.R_new' ho0 (Kd.R_lt (kr_ HO657.out))) (Kd.R_lt (kr_ HO661.out))) (Kd.R_lt (kr_ HO666.out))) (below_size (bw_ HB.out)))
         replace HO657 := Aside0.mk (Kd.R_elder' (kr_ HO657.out) (Kd.R_base ho0) hb)
         replace HO661 := Aside0.mk (Kd.R_elder' (kr_ HO661.out) (Kd.R_base ho0) hb)
         replace HO666 := Aside0.mk (Kd.R_elder' (kr_ HO666.out) (Kd.R_base ho0) hb)
         replace BK649 := kq_ BK649 hb
         replace BK650 := kq_ BK650 hb
         replace HB := bq_ HB hb
         (try clear hb)
         (try clear hb2)
         (try clear hk)
         (try clear hi)
         (try clear ho0)
         obtain ⟨Ao46, co46, eo46⟩ := Kd.R_slice HO666.out
         (first | subst eo46 | (injection eo46 with f1_ f2_ f3_; have f4_ := f1_.symm; have f5_ := f3_.symm; clear f1_ f2_ f3_; subst f4_; subst f5_))
         obtain ⟨Ao47, co47, eo47⟩ := Kd.R_slice HO670.out
         (first | subst eo47 | (injection eo47 with f1_ f2_ f3_; have f4_ := f1_.symm; have f5_ := f3_.symm; clear f1_ f2_ f3_; subst f4_; subst f5_))
         refine hK.out _ _ ⟨(blk_cell BK649.out 0).trans rfl, (blk_cell BK649.out 1).trans rfl, (blk_cell BK650.out 0).trans rfl, (blk_cell BK650.out 1).trans rfl⟩ (fun hHeld => ?_)
         clear hK K
         refine norm_ (a' := ?_) ?_ ?_
         rotate_left
         ·show Act.put _ (some 40) _ = _
          exact pt_
         refine one_ (i := 6) (N := some 41) #[true, true, true, true, true, true, true, false] rfl rfl (one_of HT_.out (by kernel_rfl)) (by decide) (fun K hK => ?_)
         refine gs_ Try.func13 #[.agg #[.bool t663, .slice Ao46 t664.length co46], .agg #[.bool t667, .slice Ao47 t668.length co47]] ?_
         with_reducible refine (pelorusref02_Alike.calls kj5 t663 _ _ t664 t667 _ _ t668 true _ ?side1 ?side2 ?side3 ?side4 A23.out).mono ?_
         (case side1 => repeat (first | exact (Kd.R_reads' HO666.out).2.2 | (with_reducible refine Kd.C_alloc ?_ _) | (with_reducible refine Kd.C_drewN ?_ _) | (with_reducible refine Kd.C_drew ?_)))
         (case side2 => exact (Kd.R_reads' HO666.out).2.1)
         (case side3 => repeat (first | exact (Kd.R_reads' HO670.out).2.2 | (with_reducible refine Kd.C_alloc ?_ _) | (with_reducible refine Kd.C_drewN ?_ _) | (with_reducible refine Kd.C_drew ?_)))
         (case side4 => exact (Kd.R_reads' HO670.out).2.1)
         rintro e w48 ⟨rfl, hb⟩
         refine ⟨_, rfl, ?_⟩
         replace HO657 := Aside0.mk (Kd.R_below (kr_ HO657.out) hb)
         replace HO661 := Aside0.mk (Kd.R_below (kr_ HO661.out) hb)
         replace HO666 := Aside0.mk (Kd.R_below (kr_ HO666.out) hb)
         replace HO670 := Aside0.mk (Kd.R_below (kr_ HO670.out) hb)
         replace BK649 := kq_ BK649 hb
         replace BK650 := kq_ BK650 hb
         replace HB := bq_ HB hb
         (try clear hb)
         (try clear hb2)
         (try clear hk)
         (try clear hi)
         refine hK.out _ _ ⟨(blk_cell BK649.out 0).trans rfl, (blk_cell BK649.out 1).trans rfl, (blk_cell BK650.out 0).trans rfl, (blk_cell BK650.out 1).trans rfl⟩ (fun hHeld => ?_)
         clear hK K
         refine norm_ (a' := ?_) ?_ ?_
         rotate_left
         ·show Act.put _ (some 41) _ = _
          exact pt_
         refine pure_ (i := 7) (N := some 9) (v := ?_) (a' := ?_) #[true, true, true, true, true, true, true, true] rfl rfl (any_of HT_.out (by kernel_rfl)) (fun _ _ _ h => h) (Or.inl ⟨by rfl, ?_⟩) ?_ ?_
         rotate_left
         ·intro w'
          go_simp
          with_reducible rfl
         rotate_left
         ·exact pt_
         refine done_ (done_of HT_.out (by kernel_rfl)) ?_
         try go_wp2
         replace HO657 := Aside0.mk (Kd.R_drew HO657.out)
         replace HO661 := Aside0.mk (Kd.R_drew HO661.out)
         replace HO666 := Aside0.mk (Kd.R_drew HO666.out)
         replace HO670 := Aside0.mk (Kd.R_drew HO670.out)
         replace BK649 := Aside0.mk (blk_drew BK649.out)
         replace BK650 := Aside0.mk (blk_drew BK650.out)
         replace HB := Aside0.mk (below_drew1 HB.out)
         refine start_ (n := 6) (S := fun w' => w'.cell? ⟨gb649, 0, none⟩ = some (.bool a0_0) ∧ w'.cell? ⟨gb649, 1, none⟩ = some (.slice A0_1 l0_1.length c0_1)) (ds := []) #[false, false, false, false, false, false] (by kernel_rfl) rfl rfl ⟨(blk_cell BK649.out 0).trans rfl, (blk_cell BK649.out 1).trans rfl⟩ (fun hHeld => ?_)
         generalize w48.drew = w49 at HO657 HO661 HO666 HO670 BK649 BK650 HB hHeld ⊢
         refine take_ (i := 0) (N := some 42) (v := ?_) (a' := ?_) #[true, false, false, false, false, false] rfl rfl (by kernel_rfl) (fun _ _ _ h => h) (Or.inl ⟨by rfl, ?_⟩) hHeld ?_ ?_
         rotate_left
         ·rintro w' ⟨s0, s1⟩
          go_simp
          with_reducible rfl
         rotate_left
         ·exact pt_
         refine take_ (i := 2) (N := some 44) (v := ?_) (a' := ?_) #[true, false, true, false, false, false] rfl rfl (by kernel_rfl) (fun _ _ _ h => h) (Or.inl ⟨by rfl, ?_⟩) hHeld ?_ ?_
         rotate_left
         ·rintro w' ⟨s0, s1⟩
          go_simp
          with_reducible rfl
         rotate_left
         ·exact pt_
         refine one_ (i := 1) (N := some 43) #[true, true, true, false, false, false] rfl rfl (by kernel_rfl) (by decide) (fun K hK => ?_)
         refine gs_ Try.func31 #[.agg #[.bool a0_0, .slice A0_1 l0_1.length c0_1]] ?_
         with_reducible refine (whole_Neg.calls kj5 a0_0 _ _ l0_1 t672 t673 _ ?side1 ?side2 A24.out).mono ?_
         (case side1 => repeat (first | exact (Kd.C_below HR0_1.out HB.out) | (with_reducible refine Kd.C_alloc ?_ _) | (with_reducible refine Kd.C_drewN ?_ _) | (with_reducible refine Kd.C_drew ?_)))
         (case side2 => exact HC0_1.out)
         rintro e w50 ⟨v674, rfl, ho0, hb⟩
         refine ⟨_, rfl, ?_⟩
         have HO675 := Aside0.mk (Kd.R_lower (Kd.R_new' (Kd.R_new' (Kd.R_new' (Kd.R_new' ho0 (Kd.R_lt (kr_ HO657.out))) (Kd.R_lt (kr_ HO661.out))) (Kd.R_lt (kr_ HO666.out))) (Kd.R_lt (kr_ HO670.out))) (below_size (bw_ HB.out)))
         replace HO657 := Aside0.mk (Kd.R_elder' (kr_ HO657.out) (Kd.R_base ho0) hb)
         replace HO661 := Aside0.mk (Kd.R_elder' (kr_ HO661.out) (Kd.R_base ho0) hb)
         replace HO666 := Aside0.mk (Kd.R_elder' (kr_ HO666.out) (Kd.R_base ho0) hb)
         replace HO670 := Aside0.mk (Kd.R_elder' (kr_ HO670.out) (Kd.R_base ho0) hb)
         replace BK649 := kq_ BK649 hb
         replace BK650 := kq_ BK650 hb
         replace HB := bq_ HB hb
         (try clear hb)
         (try clear hb2)
         (try clear hk)
         (try clear hi)
         (try clear ho0)
         refine hK.out _ _ ⟨(blk_cell BK649.out 0).trans rfl, (blk_cell BK649.out 1).trans rfl⟩ (fun hHeld => ?_)
         clear hK K
         refine norm_ (a' := ?_) ?_ ?_
         rotate_left
         ·show Act.put _ (some 43) _ = _
          exact pt_
         refine one_ (i := 3) (N := some 45) #[true, true, true, true, false, false] rfl rfl (by kernel_rfl) (by decide) (fun K hK => ?_)
         refine gs_ Try.func32 #[.agg #[.bool a0_0, .slice A0_1 l0_1.length c0_1]] ?_
         with_reducible refine (pelorusref02_Neg.calls kj5 a0_0 _ _ l0_1 t676 t677 _ ?side1 ?side2 A25.out).mono ?_
         (case side1 => repeat (first | exact (Kd.C_below HR0_1.out HB.out) | (with_reducible refine Kd.C_alloc ?_ _) | (with_reducible refine Kd.C_drewN ?_ _) | (with_reducible refine Kd.C_drew ?_)))
         (case side2 => exact HC0_1.out)
         rintro e w51 ⟨v678, rfl, ho0, hb⟩
         refine ⟨_, rfl, ?_⟩
         have HO679 := Aside0.mk (Kd.R_lower (Kd.R_new' (Kd.R_new' (Kd.R_new' (Kd.R_new' (Kd.R_new' ho0 (Kd.R_lt (kr_ HO657.out))) (Kd.R_lt (kr_ HO661.out))) (Kd.R_lt (kr_ HO666.out))) (Kd.R_lt (kr_ HO670.out))) (Kd.R_lt (kr_ HO675.out))) (below_size (bw_ HB.out)))
         replace HO657 := Aside0.mk (Kd.R_elder' (kr_ HO657.out) (Kd.R_base ho0) hb)
         replace HO661 := Aside0.mk (Kd.R_elder' (kr_ HO661.out) (Kd.R_base ho0) hb)
         replace HO666 := Aside0.mk (Kd.R_elder' (kr_ HO666.out) (Kd.R_base ho0) hb)
         replace HO670 := Aside0.mk (Kd.R_elder' (kr_ HO670.out) (Kd.R_base ho0) hb)
         replace HO675 := Aside0.mk (Kd.R_elder' (kr_ HO675.out) (Kd.R_base ho0) hb)
         replace BK649 := kq_ BK649 hb
         replace BK650 := kq_ BK650 hb
         replace HB := bq_ HB hb
         (try clear hb)
         (try clear hb2)
         (try clear hk)
         (try clear hi)
         (try clear ho0)
         obtain ⟨Ao52, co52, eo52⟩ := Kd.R_slice HO675.out
         (first | subst eo52 | (injection eo52 with f1_ f2_ f3_; have f4_ := f1_.symm; have f5_ := f3_.symm; clear f1_ f2_ f3_; subst f4_; subst f5_))
         obtain ⟨Ao53, co53, eo53⟩ := Kd.R_slice HO679.out
         (first | subst eo53 | (injection eo53 with f1_ f2_ f3_; have f4_ := f1_.symm; have f5_ := f3_.symm; clear f1_ f2_ f3_; subst f4_; subst f5_))
         refine hK.out _ _ ⟨(blk_cell BK649.out 0).trans rfl, (blk_cell BK649.out 1).trans rfl⟩ (fun hHeld => ?_)
         clear hK K
         refine norm_ (a' := ?_) ?_ ?_
         rotate_left
         ·show Act.put _ (some 45) _ = _
          exact pt_
         refine one_ (i := 4) (N := some 46) #[true, true, true, true, true, false] rfl rfl (by kernel_rfl) (by decide) (fun K hK => ?_)
         refine gs_ Try.func13 #[.agg #[.bool t672, .slice Ao52 t673.length co52], .agg #[.bool t676, .slice Ao53 t677.length co53]] ?_
         with_reducible refine (pelorusref02_Alike.calls kj5 t672 _ _ t673 t676 _ _ t677 true _ ?side1 ?side2 ?side3 ?side4 A26.out).mono ?_
         (case side1 => repeat (first | exact (Kd.R_reads' HO675.out).2.2 | (with_reducible refine Kd.C_alloc ?_ _) | (with_reducible refine Kd.C_drewN ?_ _) | (with_reducible refine Kd.C_drew ?_)))
         (case side2 => exact (Kd.R_reads' HO675.out).2.1)
         (case side3 => repeat (first | exact (Kd.R_reads' HO679.out).2.2 | (with_reducible refine Kd.C_alloc ?_ _) | (with_reducible refine Kd.C_drewN ?_ _) | (with_reducible refine Kd.C_drew ?_)))
         (case side4 => exact (Kd.R_reads' HO679.out).2.1)
         rintro e w54 ⟨rfl, hb⟩
         refine ⟨_, rfl, ?_⟩
         replace HO657 := Aside0.mk (Kd.R_below (kr_ HO657.out) hb)
         replace HO661 := Aside0.mk (Kd.R_below (kr_ HO661.out) hb)
         replace HO666 := Aside0.mk (Kd.R_below (kr_ HO666.out) hb)
         replace HO670 := Aside0.mk (Kd.R_below (kr_ HO670.out) hb)
         replace HO675 := Aside0.mk (Kd.R_below (kr_ HO675.out) hb)
         replace HO679 := Aside0.mk (Kd.R_below (kr_ HO679.out) hb)
         replace BK649 := kq_ BK649 hb
         replace BK650 := kq_ BK650 hb
         replace HB := bq_ HB hb
         (try clear hb)
         (try clear hb2)
         (try clear hk)
         (try clear hi)
         refine hK.out _ _ ⟨(blk_cell BK649.out 0).trans rfl, (blk_cell BK649.out 1).trans rfl⟩ (fun hHeld => ?_)
         clear hK K
         refine norm_ (a' := ?_) ?_ ?_
         rotate_left
         ·show Act.put _ (some 46) _ = _
          exact pt_
         refine pure_ (i := 5) (N := some 10) (v := ?_) (a' := ?_) #[true, true, true, true, true, true] rfl rfl (by kernel_rfl) (fun _ _ _ h => h) (Or.inl ⟨by rfl, ?_⟩) ?_ ?_
         rotate_left
         ·intro w'
          go_simp
          with_reducible rfl
         rotate_left
         ·exact pt_
         refine done_ (by kernel_rfl) ?_
         have hnb55 := NB649_650.out
         have hnc55 := NB650_649.out
         obtain ⟨hcz56_0, hcz56_1, hfz56_0, hfz56_1⟩ := c2_ BK649
         obtain ⟨hcz57_0, hcz57_1, hfz57_0, hfz57_1⟩ := c2_ BK650
         try go_wp2_with (first | ((with_reducible refine gate_callee (f := 33) rfl ?_); refine gl_ (some 49) Try.func33 #[.agg #[.bool a0_0, .slice A0_1 l0_1.length c0_1], .agg #[.bool a1_0, .slice A1_1 l1_1.length c1_1]] ?_; (with_reducible refine (pelorusref02_Cmp.calls kj5 a0_0 _ _ l0_1 a1_0 _ _ l1_1 t681 _ ?side1 ?side2 ?side3 ?side4 A27.out).mono ?_); (case side1 => repeat (first | exact (Kd.C_below HR0_1.out HB.out) | (with_reducible refine Kd.C_alloc ?_ _) | (with_reducible refine Kd.C_drewN ?_ _) | (with_reducible refine Kd.C_drew ?_))); (case side2 => exact HC0_1.out); (case side3 => repeat (first | exact (Kd.C_below HR1_1.out HB.out) | (with_reducible refine Kd.C_alloc ?_ _) | (with_reducible refine Kd.C_drewN ?_ _) | (with_reducible refine Kd.C_drew ?_))); (case side4 => exact HC1_1.out); rintro e w58 ⟨rfl, hb⟩; refine ⟨_, rfl, ?_⟩; replace HO657 := Aside0.mk (Kd.R_below (kr_ HO657.out) hb); replace HO661 := Aside0.mk (Kd.R_below (kr_ HO661.out) hb); replace HO666 := Aside0.mk (Kd.R_below (kr_ HO666.out) hb); replace HO670 := Aside0.mk (Kd.R_below (kr_ HO670.out) hb); replace HO675 := Aside0.mk (Kd.R_below (kr_ HO675.out) hb); replace HO679 := Aside0.mk (Kd.R_below (kr_ HO679.out) hb); replace BK649 := kq_ BK649 hb; replace BK650 := kq_ BK650 hb; replace HB := bq_ HB hb; (try clear hb); (try clear hb2); (try clear hk); (try clear hi)))
         replace HO657 := Aside0.mk (Kd.R_drew HO657.out)
         replace HO661 := Aside0.mk (Kd.R_drew HO661.out)
         replace HO666 := Aside0.mk (Kd.R_drew HO666.out)
         replace HO670 := Aside0.mk (Kd.R_drew HO670.out)
         replace HO675 := Aside0.mk (Kd.R_drew HO675.out)
         replace HO679 := Aside0.mk (Kd.R_drew HO679.out)
         replace BK649 := Aside0.mk (blk_drew BK649.out)
         replace BK650 := Aside0.mk (blk_drew BK650.out)
         replace HB := Aside0.mk (below_drew1 HB.out)
         refine start_ (n := 30) (S := fun w' => w'.cell? ⟨gb649, 0, none⟩ = some (.bool a0_0) ∧ w'.cell? ⟨gb649, 1, none⟩ = some (.slice A0_1 l0_1.length c0_1) ∧ w'.cell? ⟨gb650, 0, none⟩ = some (.bool a1_0) ∧ w'.cell? ⟨gb650, 1, none⟩ = some (.slice A1_1 l1_1.length c1_1)) (ds := []) #[false, false, false, false, false, false, false, false, false, false, false, false, false, false, false, false, false, false, false, false, false, false, false, false, false, false, false, false, false, false] (by kernel_rfl) rfl rfl ⟨(blk_cell BK649.out 0).trans rfl, (blk_cell BK649.out 1).trans rfl, (blk_cell BK650.out 0).trans rfl, (blk_cell BK650.out 1).trans rfl⟩ (fun hHeld => ?_); refine with_tabW peloruslaw02_WholeSums.tab10 peloruslaw02_WholeSums.bits10 (fun HT_ HW_ => ?_)
         generalize w58.drew = w59 at HO657 HO661 HO666 HO670 HO675 HO679 BK649 BK650 HB hHeld ⊢
         refine pure_ (i := 0) (N := some 50) (v := ?_) (a' := ?_) #[true, false, false, false, false, false, false, false, false, false, false, false, false, false, false, false, false, false, false, false, false, false, false, false, false, false, false, false, false, false] rfl rfl (any_of HT_.out (by kernel_rfl)) (fun _ _ _ h => h) (Or.inl ⟨by rfl, ?_⟩) ?_ ?_
         rotate_left
         ·intro w'
          go_simp
          with_reducible rfl
         rotate_left
         ·exact pt_
         refine pure_ (i := 1) (N := some 51) (v := ?_) (a' := ?_) #[true, true, false, false, false, false, false, false, false, false, false, false, false, false, false, false, false, false, false, false, false, false, false, false, false, false, false, false, false, false] rfl rfl (any_of HT_.out (by kernel_rfl)) (fun _ _ _ h => h) (Or.inl ⟨by rfl, ?_⟩) ?_ ?_
         rotate_left
         ·intro w'
          go_simp
          with_reducible rfl
         rotate_left
         ·exact pt_
         refine pure_ (i := 2) (N := some 52) (v := ?_) (a' := ?_) #[true, true, true, false, false, false, false, false, false, false, false, false, false, false, false, false, false, false, false, false, false, false, false, false, false, false, false, false, false, false] rfl rfl (any_of HT_.out (by kernel_rfl)) (fun _ _ _ h => h) (Or.inl ⟨by rfl, ?_⟩) ?_ ?_
         rotate_left
         ·intro w'
          go_simp
          with_reducible rfl
         rotate_left
         ·exact pt_
         refine pure_ (i := 3) (N := some 53) (v := ?_) (a' := ?_) #[true, true, true, true, false, false, false, false, false, false, false, false, false, false, false, false, false, false, false, false, false, false, false, false, false, false, false, false, false, false] rfl rfl (any_of HT_.out (by kernel_rfl)) (fun _ _ _ h => h) (Or.inl ⟨by rfl, ?_⟩) ?_ ?_
         rotate_left
         ·intro w'
          go_simp
          with_reducible rfl
         rotate_left
         ·exact pt_
         refine pure_ (i := 4) (N := some 54) (v := ?_) (a' := ?_) #[true, true, true, true, true, false, false, false, false, false, false, false, false, false, false, false, false, false, false, false, false, false, false, false, false, false, false, false, false, false] rfl rfl (any_of HT_.out (by kernel_rfl)) (fun _ _ _ h => h) (Or.inl ⟨by rfl, ?_⟩) ?_ ?_
         rotate_left
         ·intro w'
          go_simp
          with_reducible rfl
         rotate_left
         ·exact pt_
         refine pure_ (i := 5) (N := some 55) (v := ?_) (a' := ?_) #[true, true, true, true, true, true, false, false, false, false, false, false, false, false, false, false, false, false, false, false, false, false, false, false, false, false, false, false, false, false] rfl rfl (any_of HT_.out (by kernel_rfl)) (fun _ _ _ h => h) (Or.inl ⟨by rfl, ?_⟩) ?_ ?_
         rotate_left
         ·intro w'
          go_simp
          with_reducible rfl
         rotate_left
         ·exact pt_
         refine pure_ (i := 6) (N := some 56) (v := ?_) (a' := ?_) #[true, true, true, true, true, true, true, false, false, false, false, false, false, false, false, false, false, false, false, false, false, false, false, false, false, false, false, false, false, false] rfl rfl (any_of HT_.out (by kernel_rfl)) (fun _ _ _ h => h) (Or.inl ⟨by rfl, ?_⟩) ?_ ?_
         rotate_left
         ·intro w'
          go_simp
          with_reducible rfl
         rotate_left
         ·exact pt_
         refine pure_ (i := 7) (N := some 57) (v := ?_) (a' := ?_) #[true, true, true, true, true, true, true, true, false, false, false, false, false, false, false, false, false, false, false, false, false, false, false, false, false, false, false, false, false, false] rfl rfl (any_of HT_.out (by kernel_rfl)) (fun _ _ _ h => h) (Or.inl ⟨by rfl, ?_⟩) ?_ ?_
         rotate_left
         ·intro w'
          go_simp
          with_reducible rfl
         rotate_left
         ·exact pt_
         refine pure_ (i := 11) (N := some 61) (v := ?_) (a' := ?_) #[true, true, true, true, true, true, true, true, false, false, false, true, false, false, false, false, false, false, false, false, false, false, false, false, false, false, false, false, false, false] rfl rfl (any_of HT_.out (by kernel_rfl)) (fun _ _ _ h => h) (Or.inl ⟨by rfl, ?_⟩) ?_ ?_
         rotate_left
         ·intro w'
          go_simp
          with_reducible rfl
         rotate_left
         ·exact pt_
         refine take_ (i := 8) (N := some 58) (v := ?_) (a' := ?_) #[true, true, true, true, true, true, true, true, true, false, false, true, false, false, false, false, false, false, false, false, false, false, false, false, false, false, false, false, false, false] rfl rfl (take_ofW HT_.out HW_.out (by kernel_rfl)) (fun _ _ _ h => h) (Or.inl ⟨by rfl, ?_⟩) hHeld ?_ ?_
         rotate_left
         ·rintro w' ⟨s0, s1, s2, s3⟩
          go_simp
          with_reducible rfl
         rotate_left
         ·exact pt_
         refine take_ (i := 9) (N := some 59) (v := ?_) (a' := ?_) #[true, true, true, true, true, true, true, true, true, true, false, true, false, false, false, false, false, false, false, false, false, false, false, false, false, false, false, false, false, false] rfl rfl (take_ofW HT_.out HW_.out (by kernel_rfl)) (fun _ _ _ h => h) (Or.inl ⟨by rfl, ?_⟩) hHeld ?_ ?_
         rotate_left
         ·rintro w' ⟨s0, s1, s2, s3⟩
          go_simp
          with_reducible rfl
         rotate_left
         ·exact pt_
         refine one_ (i := 10) (N := some 60) #[true, true, true, true, true, true, true, true, true, true, true, true, false, false, false, false, false, false, false, false, false, false, false, false, false, false, false, false, false, false] rfl rfl (one_of HT_.out (by kernel_rfl)) (by decide) (fun K hK => ?_)
         refine gs_ Try.func25 #[.agg #[.bool a0_0, .slice A0_1 l0_1.length c0_1], .agg #[.bool a1_0, .slice A1_1 l1_1.length c1_1]] ?_
         with_reducible refine (whole_Cmp.calls kj5 a0_0 _ _ l0_1 a1_0 _ _ l1_1 t682 _ ?side1 ?side2 ?side3 ?side4 A31.out).mono ?_
         (case side1 => repeat (first | exact (Kd.C_below HR0_1.out HB.out) | (with_reducible refine Kd.C_alloc ?_ _) | (with_reducible refine Kd.C_drewN ?_ _) | (with_reducible refine Kd.C_drew ?_)))
         (case side2 => exact HC0_1.out)
         (case side3 => repeat (first | exact (Kd.C_below HR1_1.out HB.out) | (with_reducible refine Kd.C_alloc ?_ _) | (with_reducible refine Kd.C_drewN ?_ _) | (with_reducible refine Kd.C_drew ?_)))
         (case side4 => exact HC1_1.out)
         rintro e w60 ⟨rfl, hb⟩
         refine ⟨_, rfl, ?_⟩
         replace HO657 := Aside0.mk (Kd.R_below (kr_ HO657.out) hb)
         replace HO661 := Aside0.mk (Kd.R_below (kr_ HO661.out) hb)
         replace HO666 := Aside0.mk (Kd.R_below (kr_ HO666.out) hb)
         replace HO670 := Aside0.mk (Kd.R_below (kr_ HO670.out) hb)
         replace HO675 := Aside0.mk (Kd.R_below (kr_ HO675.out) hb)
         replace HO679 := Aside0.mk (Kd.R_below (kr_ HO679.out) hb)
         replace BK649 := kq_ BK649 hb
         replace BK650 := kq_ BK650 hb
         replace HB := bq_ HB hb
         (try clear hb)
         (try clear hb2)
         (try clear hk)
         (try clear hi)
         refine hK.out _ _ ⟨(blk_cell BK649.out 0).trans rfl, (blk_cell BK649.out 1).trans rfl, (blk_cell BK650.out 0).trans rfl, (blk_cell BK650.out 1).trans rfl⟩ (fun hHeld => ?_)
         clear hK K
         refine norm_ (a' := ?_) ?_ ?_
         rotate_left
         ·show Act.put _ (some 60) _ = _
          exact pt_
         refine pure_ (i := 12) (N := some 62) (v := ?_) (a' := ?_) #[true, true, true, true, true, true, true, true, true, true, true, true, true, false, false, false, false, false, false, false, false, false, false, false, false, false, false, false, false, false] rfl rfl (any_of HT_.out (by kernel_rfl)) (fun _ _ _ h => h) (Or.inl ⟨by rfl, ?_⟩) ?_ ?_
         rotate_left
         ·intro w'
          go_simp
          with_reducible rfl
         rotate_left
         ·exact pt_
         refine pure_ (i := 13) (N := some 63) (v := ?_) (a' := ?_) #[true, true, true, true, true, true, true, true, true, true, true, true, true, true, false, false, false, false, false, false, false, false, false, false, false, false, false, false, false, false] rfl rfl (any_of HT_.out (by kernel_rfl)) (fun _ _ _ h => h) (Or.inl ⟨by rfl, ?_⟩) ?_ ?_
         rotate_left
         ·intro w'
          go_simp
          with_reducible rfl
         rotate_left
         ·exact pt_
         refine pure_ (i := 14) (N := some 64) (v := ?_) (a' := ?_) #[true, true, true, true, true, true, true, true, true, true, true, true, true, true, true, false, false, false, false, false, false, false, false, false, false, false, false, false, false, false] rfl rfl (any_of HT_.out (by kernel_rfl)) (fun _ _ _ h => h) (Or.inl ⟨by rfl, ?_⟩) ?_ ?_
         rotate_left
         ·intro w'
          go_simp
          with_reducible rfl
         rotate_left
         ·exact pt_
         refine pure_ (i := 18) (N := some 68) (v := ?_) (a' := ?_) #[true, true, true, true, true, true, true, true, true, true, true, true, true, true, true, false, false, false, true, false, false, false, false, false, false, false, false, false, false, false] rfl rfl (any_of HT_.out (by kernel_rfl)) (fun _ _ _ h => h) (Or.inl ⟨by rfl, ?_⟩) ?_ ?_
         rotate_left
         ·intro w'
          go_simp
          with_reducible rfl
         rotate_left
         ·exact pt_
         refine pure_ (i := 19) (N := some 69) (v := ?_) (a' := ?_) #[true, true, true, true, true, true, true, true, true, true, true, true, true, true, true, false, false, false, true, true, false, false, false, false, false, false, false, false, false, false] rfl rfl (any_of HT_.out (by kernel_rfl)) (fun _ _ _ h => h) (Or.inl ⟨by rfl, ?_⟩) ?_ ?_
         rotate_left
         ·intro w'
          go_simp
          with_reducible rfl
         rotate_left
         ·exact pt_
         refine take_ (i := 15) (N := some 65) (v := ?_) (a' := ?_) #[true, true, true, true, true, true, true, true, true, true, true, true, true, true, true, true, false, false, true, true, false, false, false, false, false, false, false, false, false, false] rfl rfl (take_ofW HT_.out HW_.out (by kernel_rfl)) (fun _ _ _ h => h) (Or.inl ⟨by rfl, ?_⟩) hHeld ?_ ?_
         rotate_left
         ·rintro w' ⟨s0, s1, s2, s3⟩
          go_simp
          with_reducible rfl
         rotate_left
         ·exact pt_
         refine take_ (i := 16) (N := some 66) (v := ?_) (a' := ?_) #[true, true, true, true, true, true, true, true, true, true, true, true, true, true, true, true, true, false, true, true, false, false, false, false, false, false, false, false, false, false] rfl rfl (take_ofW HT_.out HW_.out (by kernel_rfl)) (fun _ _ _ h => h) (Or.inl ⟨by rfl, ?_⟩) hHeld ?_ ?_
         rotate_left
         ·rintro w' ⟨s0, s1, s2, s3⟩
          go_simp
          with_reducible rfl
         rotate_left
         ·exact pt_
         refine one_ (i := 17) (N := some 67) #[true, true, true, true, true, true, true, true, true, true, true, true, true, true, true, true, true, true, true, true, false, false, false, false, false, false, false, false, false, false] rfl rfl (one_of HT_.out (by kernel_rfl)) (by decide) (fun K hK => ?_)
         refine gs_ Try.func26 #[.agg #[.bool a0_0, .slice A0_1 l0_1.length c0_1], .agg #[.bool a1_0, .slice A1_1 l1_1.length c1_1]] ?_
         with_reducible refine (whole_Same.calls kj5 a0_0 _ _ l0_1 a1_0 _ _ l1_1 t683 _ ?side1 ?side2 ?side3 ?side4 A33.out).mono ?_
         (case side1 => repeat (first | exact (Kd.C_below HR0_1.out HB.out) | (with_reducible refine Kd.C_alloc ?_ _) | (with_reducible refine Kd.C_drewN ?_ _) | (with_reducible refine Kd.C_drew ?_)))
         (case side2 => exact HC0_1.out)
         (case side3 => repeat (first | exact (Kd.C_below HR1_1.out HB.out) | (with_reducible refine Kd.C_alloc ?_ _) | (with_reducible refine Kd.C_drewN ?_ _) | (with_reducible refine Kd.C_drew ?_)))
         (case side4 => exact HC1_1.out)
         rintro e w61 ⟨rfl, hb⟩
         refine ⟨_, rfl, ?_⟩
         replace HO657 := Aside0.mk (Kd.R_below (kr_ HO657.out) hb)
         replace HO661 := Aside0.mk (Kd.R_below (kr_ HO661.out) hb)
         replace HO666 := Aside0.mk (Kd.R_below (kr_ HO666.out) hb)
         replace HO670 := Aside0.mk (Kd.R_below (kr_ HO670.out) hb)
         replace HO675 := Aside0.mk (Kd.R_below (kr_ HO675.out) hb)
         replace HO679 := Aside0.mk (Kd.R_below (kr_ HO679.out) hb)
         replace BK649 := kq_ BK649 hb
         replace BK650 := kq_ BK650 hb
         replace HB := bq_ HB hb
         (try clear hb)
         (try clear hb2)
         (try clear hk)
         (try clear hi)
         refine hK.out _ _ ⟨(blk_cell BK649.out 0).trans rfl, (blk_cell BK649.out 1).trans rfl, (blk_cell BK650.out 0).trans rfl, (blk_cell BK650.out 1).trans rfl⟩ (fun hHeld => ?_)
         clear hK K
         refine norm_ (a' := ?_) ?_ ?_
         rotate_left
         ·show Act.put _ (some 67) _ = _
          exact pt_
         refine pure_ (i := 20) (N := some 70) (v := ?_) (a' := ?_) #[true, true, true, true, true, true, true, true, true, true, true, true, true, true, true, true, true, true, true, true, true, false, false, false, false, false, false, false, false, false] rfl rfl (any_of HT_.out (by kernel_rfl)) (fun _ _ _ h => h) (Or.inl ⟨by rfl, ?_⟩) ?_ ?_
         rotate_left
         ·intro w'
          go_simp
          with_reducible rfl
         rotate_left
         ·exact pt_
         refine pure_ (i := 21) (N := some 71) (v := ?_) (a' := ?_) #[true, true, true, true, true, true, true, true, true, true, true, true, true, true, true, true, true, true, true, true, true, true, false, false, false, false, false, false, false, false] rfl rfl (any_of HT_.out (by kernel_rfl)) (fun _ _ _ h => h) (Or.inl ⟨by rfl, ?_⟩) ?_ ?_
         rotate_left
         ·intro w'
          go_simp
          with_reducible rfl
         rotate_left
         ·exact pt_
         refine pure_ (i := 22) (N := some 72) (v := ?_) (a' := ?_) #[true, true, true, true, true, true, true, true, true, true, true, true, true, true, true, true, true, true, true, true, true, true, true, false, false, false, false, false, false, false] rfl rfl (any_of HT_.out (by kernel_rfl)) (fun _ _ _ h => h) (Or.inl ⟨by rfl, ?_⟩) ?_ ?_
         rotate_left
         ·intro w'
          go_simp
          with_reducible rfl
         rotate_left
         ·exact pt_
         refine take_ (i := 23) (N := some 73) (v := ?_) (a' := ?_) #[true, true, true, true, true, true, true, true, true, true, true, true, true, true, true, true, true, true, true, true, true, true, true, true, false, false, false, false, false, false] rfl rfl (take_ofW HT_.out HW_.out (by kernel_rfl)) (fun _ _ _ h => h) (Or.inl ⟨by rfl, ?_⟩) hHeld ?_ ?_
         rotate_left
         ·rintro w' ⟨s0, s1, s2, s3⟩
          go_simp
          with_reducible rfl
         rotate_left
         ·exact pt_
         refine take_ (i := 25) (N := some 75) (v := ?_) (a' := ?_) #[true, true, true, true, true, true, true, true, true, true, true, true, true, true, true, true, true, true, true, true, true, true, true, true, false, true, false, false, false, false] rfl rfl (take_ofW HT_.out HW_.out (by kernel_rfl)) (fun _ _ _ h => h) (Or.inl ⟨by rfl, ?_⟩) hHeld ?_ ?_
         rotate_left
         ·rintro w' ⟨s0, s1, s2, s3⟩
          go_simp
          with_reducible rfl
         rotate_left
         ·exact pt_
         refine one_ (i := 24) (N := some 74) #[true, true, true, true, true, true, true, true, true, true, true, true, true, true, true, true, true, true, true, true, true, true, true, true, true, true, false, false, false, false] rfl rfl (one_of HT_.out (by kernel_rfl)) (by decide) (fun K hK => ?_)
         refine gs_ Try.func24 #[.agg #[.bool a0_0, .slice A0_1 l0_1.length c0_1]] ?_
         with_reducible refine (whole_Sign.calls kj5 a0_0 _ _ l0_1 t684 _ ?side1 ?side2 A35.out).mono ?_
         (case side1 => repeat (first | exact (Kd.C_below HR0_1.out HB.out) | (with_reducible refine Kd.C_alloc ?_ _) | (with_reducible refine Kd.C_drewN ?_ _) | (with_reducible refine Kd.C_drew ?_)))
         (case side2 => exact HC0_1.out)
         rintro e w62 ⟨rfl, hb⟩
         refine ⟨_, rfl, ?_⟩
         replace HO657 := Aside0.mk (Kd.R_below (kr_ HO657.out) hb)
         replace HO661 := Aside0.mk (Kd.R_below (kr_ HO661.out) hb)
         replace HO666 := Aside0.mk (Kd.R_below (kr_ HO666.out) hb)
         replace HO670 := Aside0.mk (Kd.R_below (kr_ HO670.out) hb)
         replace HO675 := Aside0.mk (Kd.R_below (kr_ HO675.out) hb)
         replace HO679 := Aside0.mk (Kd.R_below (kr_ HO679.out) hb)
         replace BK649 := kq_ BK649 hb
         replace BK650 := kq_ BK650 hb
         replace HB := bq_ HB hb
         (try clear hb)
         (try clear hb2)
         (try clear hk)
         (try clear hi)
         refine hK.out _ _ ⟨(blk_cell BK649.out 0).trans rfl, (blk_cell BK649.out 1).trans rfl, (blk_cell BK650.out 0).trans rfl, (blk_cell BK650.out 1).trans rfl⟩ (fun hHeld => ?_)
         clear hK K
         refine norm_ (a' := ?_) ?_ ?_
         rotate_left
         ·show Act.put _ (some 74) _ = _
          exact pt_
         refine one_ (i := 26) (N := some 76) #[true, true, true, true, true, true, true, true, true, true, true, true, true, true, true, true, true, true, true, true, true, true, true, true, true, true, true, false, false, false] rfl rfl (one_of HT_.out (by kernel_rfl)) (by decide) (fun K hK => ?_)
         refine gs_ Try.func34 #[.agg #[.bool a0_0, .slice A0_1 l0_1.length c0_1]] ?_
         with_reducible refine (pelorusref02_Sign.calls kj5 a0_0 _ _ l0_1 t685 _ ?side1 ?side2 A36.out).mono ?_
         (case side1 => repeat (first | exact (Kd.C_below HR0_1.out HB.out) | (with_reducible refine Kd.C_alloc ?_ _) | (with_reducible refine Kd.C_drewN ?_ _) | (with_reducible refine Kd.C_drew ?_)))
         (case side2 => exact HC0_1.out)
         rintro e w63 ⟨rfl, hb⟩
         refine ⟨_, rfl, ?_⟩
         replace HO657 := Aside0.mk (Kd.R_below (kr_ HO657.out) hb)
         replace HO661 := Aside0.mk (Kd.R_below (kr_ HO661.out) hb)
         replace HO666 := Aside0.mk (Kd.R_below (kr_ HO666.out) hb)
         replace HO670 := Aside0.mk (Kd.R_below (kr_ HO670.out) hb)
         replace HO675 := Aside0.mk (Kd.R_below (kr_ HO675.out) hb)
         replace HO679 := Aside0.mk (Kd.R_below (kr_ HO679.out) hb)
         replace BK649 := kq_ BK649 hb
         replace BK650 := kq_ BK650 hb
         replace HB := bq_ HB hb
         (try clear hb)
         (try clear hb2)
         (try clear hk)
         (try clear hi)
         refine hK.out _ _ ⟨(blk_cell BK649.out 0).trans rfl, (blk_cell BK649.out 1).trans rfl, (blk_cell BK650.out 0).trans rfl, (blk_cell BK650.out 1).trans rfl⟩ (fun hHeld => ?_)
         clear hK K
         refine norm_ (a' := ?_) ?_ ?_
         rotate_left
         ·show Act.put _ (some 76) _ = _
          exact pt_
         refine pure_ (i := 27) (N := some 77) (v := ?_) (a' := ?_) #[true, true, true, true, true, true, true, true, true, true, true, true, true, true, true, true, true, true, true, true, true, true, true, true, true, true, true, true, false, false] rfl rfl (any_of HT_.out (by kernel_rfl)) (fun _ _ _ h => h) (Or.inl ⟨by rfl, ?_⟩) ?_ ?_
         rotate_left
         ·intro w'
          go_simp
          with_reducible rfl
         rotate_left
         ·exact pt_
         refine pure_ (i := 28) (N := some 78) (v := ?_) (a' := ?_) #[true, true, true, true, true, true, true, true, true, true, true, true, true, true, true, true, true, true, true, true, true, true, true, true, true, true, true, true, true, false] rfl rfl (any_of HT_.out (by kernel_rfl)) (fun _ _ _ h => h) (Or.inl ⟨by rfl, ?_⟩) ?_ ?_
         rotate_left
         ·intro w'
          go_simp
          with_reducible rfl
         rotate_left
         ·exact pt_
         refine pure_ (i := 29) (N := some 4) (v := ?_) (a' := ?_) #[true, true, true, true, true, true, true, true, true, true, true, true, true, true, true, true, true, true, true, true, true, true, true, true, true, true, true, true, true, true] rfl rfl (any_of HT_.out (by kernel_rfl)) (fun _ _ _ h => h) (Or.inl ⟨by rfl, ?_⟩) ?_ ?_
         rotate_left
         ·intro w'
          go_simp
          with_reducible rfl
         rotate_left
         ·exact pt_
         refine done_ (done_of HT_.out (by kernel_rfl)) ?_
         try go_wp2
         go_ret
         exact ⟨rf_, bw_ HB.out⟩
        ·rw [if_neg c34] at H
         have c34b0 : (t683 == (t681 == 0)) = false := by simpa using c34
         (try (have c34b1 : decide (t683 = (t681 == 0)) = false := by simpa using c34))
         (try (have c34b2 : (t683 == (t681 == 0)) = false := by simpa using c34))
         (try (have c34b3 : ¬ (t683 = (t681 == 0)) := by simpa using c34))
         clear c34
         exact absurd ((Option.some.inj H).trans HRT_.out) (by simp)
       ·rw [if_neg c32] at H
        have c32b0 : (t682 == t681) = false := beq_eq_false_iff_ne.mpr c32
        have c32b1 : (t682 != t681) = true := bne_iff_ne.mpr c32
        exact absurd ((Option.some.inj H).trans HRT_.out) (by simp)
      ·replace c30 := Bool.eq_false_iff.mpr c30
       subst c30
       have H1 : (some false) = some r := by rw [if_neg (show ¬ (false = true) by decide)] at H; exact H
       clear H
       have H := H1
       clear H1
       exact absurd ((Option.some.inj H).trans HRT_.out) (by simp)
     ·replace c29 := Bool.eq_false_iff.mpr c29
      subst c29
      have H1 : (some false) = some r := by rw [if_neg (show ¬ (false = true) by decide)] at H; exact H
      clear H
      have H := H1
      clear H1
      exact absurd ((Option.some.inj H).trans HRT_.out) (by simp)
    ·replace c28 := Bool.eq_false_iff.mpr c28
     subst c28
     have H1 : (some false) = some r := by rw [if_neg (show ¬ (false = true) by decide)] at H; exact H
     clear H
     have H := H1
     clear H1
     exact absurd ((Option.some.inj H).trans HRT_.out) (by simp)


end Go.Proofs.Ytbejmpocgnldnaa.PA
