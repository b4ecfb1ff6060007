-- Laid by this work's own program; Lean checks it.
import Derived.Test.YtkemnoejpbknhaaDoorPAx0
import Derived.Test.YtkemnoejpbknhaaDoorPAx1
import Derived.Test.YtkemnoejpbknhaaDoorPAx2
import Derived.Test.YtkemnoejpbknhaaDoorPAx7
import Derived.Test.YtkemnoejpbknhaaDoorPAx10
import Derived.Test.YtkemnoejpbknhaaDoorPAx11
import Derived.Test.YtkemnoejpbknhaaDoorPAx14
import Derived.Test.YtkemnoejpbknhaaDoorPAx26
namespace Go.Proofs.YtkemnoejpbknhaaDoor.PA
open Go.RowKit Go.Proofs.YtkemnoejpbknhaaDoorW.PrintWords Go.Proofs.YtkemnoejpbknhaaDoorW.PrintLast Go.Proofs.YtkemnoejpbknhaaDoorW.PrintMore
attribute [local go_sem] max2_int min2_int max_two min_two max_three min_three max_four min_four   -- for this text's walks alone
set_option linter.unusedVariables false
set_option linter.unusedSimpArgs false

attribute [local go_sem ↓ high] isSome_set_
attribute [local go_sem high] eqA30
/-! ### peloruslaw05_NumNext: function 6 -/
theorem peloruslaw05_NumNext.tab6 : rtab .any (opsOf Tryd.f6 6) = peloruslaw05_NumNext.T6 := by kernel_rfl
theorem peloruslaw05_NumNext.bits6 : waitsOk peloruslaw05_NumNext.T6.2 peloruslaw05_NumNext.B6 = true := by kernel_rfl
set_option maxHeartbeats 8000000 in
set_option maxRecDepth 100000 in
theorem peloruslaw05_NumNext.calls (k : Nat) (a0_0 : Int) (a0_1 : Bool) (a0_2 : Int) (a0_3 : Int) (r : Bool) (w : World) (hr_ : r = true) (haw_ : ∀ r, peloruslaw05_awake.f k = some r → r = true) (h : peloruslaw05_NumNext.f k a0_0 a0_1 a0_2 a0_3 = some r) (htab_ : Kd.C (Kd.int .u8) w (some ⟨0, 0, none⟩) 32 tz32tab) :
  Calls Tryd.prog 6 #[.agg #[.int .i64 a0_0, .bool a0_1, .int .u64 a0_2, .int .i64 a0_3]] w fun e w' => e = .returned (.bool r) ∧ Below w.heap.size w w' := by
 have HTAB := Aside0.mk htab_
 clear htab_
 have HRT_ := Aside0.mk hr_
 clear hr_
 have HAW_ := Aside0.mk haw_
 clear haw_
 have hu30 := Tryd.underlying30
 have HB := Aside0.mk (Below.refl w.heap.size w)
 have H : ((peloruslaw05_awake.f k).bind fun t697 => ((num_May.f a0_0 a0_1 a0_2 a0_3).bind fun t698 => (if t698 = true then (peloruslaw05_NumNext.j0 k t697 (a0_0 == 2) a0_0 a0_1 a0_2 a0_3) else (peloruslaw05_NumNext.j0 k t697 true a0_0 a0_1 a0_2 a0_3)))) = some r := h
 clear h
 replace H := Option.bind_eq_some_iff.mp H
 obtain ⟨t697, A20, H⟩ := H
 (try dsimp only at H)
 have A2 := Aside0.mk A20
 clear A20
 have HC3 := Aside0.mk H
 clear H
 go_enter Tryd.func6, Tryd.ntmps6
 go_upto_region 2 with (first | ((with_reducible refine gate_dst (N := 1) rfl ?_); refine bx_ 1 #[.int .i64 a0_0, .bool a0_1, .int .u64 a0_2, .int .i64 a0_3] 30 ?_; intro gb696 hg w4 hbox hb; have BK696 := Aside0.mk (hbox); have GW696 := ge_ hg HB; have GE696 := ge_ hg HB; replace HB := bq_ HB hb; clear hb hbox hg) | ((with_reducible refine gate_callee (f := 11) rfl ?_); refine gl_ (some 6) Tryd.func11 #[] ?_; (with_reducible refine (peloruslaw05_awake.calls k  t697 _ (HAW_.out _ A2.out) A2.out ?sidet).mono ?_); (case sidet => exact Kd.C_below HTAB.out (bw_ HB.out)); rintro e w5 ⟨rfl, hb⟩; refine ⟨_, rfl, ?_⟩; replace BK696 := kq_ BK696 hb; replace HB := bq_ HB hb; (try clear hb); (try clear hb2); (try clear hk); (try clear hi)))
 (try simp only [Act.put, List.setIfInBounds_toArray, List.set_cons_zero, List.set_cons_succ])
 go_cut [14] (fun v14 wc => ∃ (kq : Nat) (x14_2 : Bool), v14 = .bool x14_2 ∧ Aside0 (peloruslaw05_NumNext.j0 kq t697 x14_2 a0_0 a0_1 a0_2 a0_3 = some r) ∧ Aside0 (kq ≤ k) ∧ Aside0 (wc.heap[gb696]? = some (.cells #[.int .i64 a0_0, .bool a0_1, .int .u64 a0_2, .int .i64 a0_3] 30 (0, 0))) ∧ Aside0 (Below w.heap.size w wc))
 case first =>
  have H := HC3.out
  clear HC3
  replace H := Option.bind_eq_some_iff.mp H
  obtain ⟨t698, A60, H⟩ := H
  (try dsimp only at H)
  have A6 := Aside0.mk A60
  clear A60
  by_cases c7 : t698 = true
  ·subst c7
   have H1 : (peloruslaw05_NumNext.j0 k t697 (a0_0 == 2) a0_0 a0_1 a0_2 a0_3) = some r := by rw [if_pos rfl] at H; exact H
   clear H
   have H := H1
   clear H1
   have H' := Aside0.mk H
   clear H
   obtain ⟨hcz8_0, hcz8_1, hcz8_2, hcz8_3, hfz8_0, hfz8_1, hfz8_2, hfz8_3⟩ := c4_ BK696
   go_wp2_with (first | ((with_reducible refine gate_callee (f := 14) rfl ?_); refine gl_ (some 8) Tryd.func14 #[.agg #[.int .i64 a0_0, .bool a0_1, .int .u64 a0_2, .int .i64 a0_3]] ?_; (with_reducible refine (num_May.calls a0_0 a0_1 a0_2 a0_3 true _ A6.out).mono ?_); rintro e w9 ⟨rfl, hb⟩; refine ⟨_, rfl, ?_⟩; replace BK696 := kq_ BK696 hb; replace HB := bq_ HB hb; (try clear hb); (try clear hb2); (try clear hk); (try clear hi); obtain ⟨hcz10_0, hcz10_1, hcz10_2, hcz10_3, hfz10_0, hfz10_1, hfz10_2, hfz10_3⟩ := c4_ BK696))
   go_meet
   case rel => exact ⟨_, ((a0_0 == 2)), (by first | rfl | (simp; done) | (simp [*]; done)), H', ⟨by first | omega | exact Nat.le_refl _⟩, ⟨kb_ BK696.out⟩, ⟨bw_ HB.out⟩⟩
  ·replace c7 := Bool.eq_false_iff.mpr c7
   subst c7
   have H1 : (peloruslaw05_NumNext.j0 k t697 true a0_0 a0_1 a0_2 a0_3) = some r := by rw [if_neg (show ¬ (false = true) by decide)] at H; exact H
   clear H
   have H := H1
   clear H1
   have H' := Aside0.mk H
   clear H
   obtain ⟨hcz11_0, hcz11_1, hcz11_2, hcz11_3, hfz11_0, hfz11_1, hfz11_2, hfz11_3⟩ := c4_ BK696
   go_wp2_with (first | ((with_reducible refine gate_callee (f := 14) rfl ?_); refine gl_ (some 8) Tryd.func14 #[.agg #[.int .i64 a0_0, .bool a0_1, .int .u64 a0_2, .int .i64 a0_3]] ?_; (with_reducible refine (num_May.calls a0_0 a0_1 a0_2 a0_3 false _ A6.out).mono ?_); rintro e w12 ⟨rfl, hb⟩; refine ⟨_, rfl, ?_⟩; replace BK696 := kq_ BK696 hb; replace HB := bq_ HB hb; (try clear hb); (try clear hb2); (try clear hk); (try clear hi)))
   go_meet
   case rel => exact ⟨_, (true), (by first | rfl | (simp; done) | (simp [*]; done)), H', ⟨by first | omega | exact Nat.le_refl _⟩, ⟨kb_ BK696.out⟩, ⟨bw_ HB.out⟩⟩
 case rest =>
  clear HC3
  try clear c1
  try clear p2
  try clear c6
  try clear c7
  try clear c11
  try clear hcz10_0 hcz10_1 hcz10_2 hcz10_3
  try clear hcz11_0 hcz11_1 hcz11_2 hcz11_3
  try clear hcz8_0 hcz8_1 hcz8_2 hcz8_3
  try clear hfz10_0 hfz10_1 hfz10_2 hfz10_3
  try clear hfz11_0 hfz11_1 hfz11_2 hfz11_3
  try clear hfz8_0 hfz8_1 hfz8_2 hfz8_3
  obtain ⟨kq, x14_2, rfl, HA, HJ2, BK696, HB⟩ := hcut
  cases kq with
  | zero => exact absurd HA.out (by simp [peloruslaw05_NumNext.j0])
  | succ kj2 =>
   have H := HA.out
   clear HA
   simp only [peloruslaw05_NumNext.j0] at H
   by_cases c13 : x14_2 = true
   ·subst c13
    have H1 : (some t697) = some r := by rw [if_pos rfl] at H; exact H
    clear H
    have H := H1
    clear H1
    obtain rfl := Option.some.inj H
    go_wp2
    go_ret
    exact ⟨rf_, bw_ HB.out⟩
   ·replace c13 := Bool.eq_false_iff.mpr c13
    subst c13
    have H1 : ((num_Next.f kj2 a0_0 a0_1 a0_2 a0_3 true).bind fun bt699 => ((num_Next.f kj2 a0_0 a0_1 a0_2 a0_3 false).bind fun bt704 => (if t697 = true then ((num_Cmp.f bt699.1 bt699.2.1 bt699.2.2.1 bt699.2.2.2 a0_0 a0_1 a0_2 a0_3).bind fun t709 => (if t709 > 0 then ((num_Cmp.f bt704.1 bt704.2.1 bt704.2.2.1 bt704.2.2.2 a0_0 a0_1 a0_2 a0_3).bind fun t710 => (if t710 < 0 then ((num_Next.f kj2 bt699.1 bt699.2.1 bt699.2.2.1 bt699.2.2.2 false).bind fun bt711 => (if (bt711.1 == a0_0 && (bt711.2.1 == a0_1 && (bt711.2.2.1 == a0_2 && (bt711.2.2.2 == a0_3)))) = true then ((num_Next.f kj2 bt704.1 bt704.2.1 bt704.2.2.1 bt704.2.2.2 true).bind fun bt715 => (if (bt715.1 == a0_0 && (bt715.2.1 == a0_1 && (bt715.2.2.1 == a0_2 && (bt715.2.2.2 == a0_3)))) = true then ((num_Neg.f bt699.1 bt699.2.1 bt699.2.2.1 bt699.2.2.2).bind fun bt719 => ((num_Neg.f a0_0 a0_1 a0_2 a0_3).bind fun bt723 => ((num_Next.f kj2 bt723.1 bt723.2.1 bt723.2.2.1 bt723.2.2.2 false).bind fun bt727 => (some (bt719.1 == bt727.1 && (bt719.2.1 == bt727.2.1 && (bt719.2.2.1 == bt727.2.2.1 && (bt719.2.2.2 == bt727.2.2.2)))))))) else (some false))) else (some false))) else (some false))) else (some false))) else (some false)))) = some r := by rw [if_neg (show ¬ (false = true) by decide)] at H; exact H
    clear H
    have H := H1
    clear H1
    replace H := Option.bind_eq_some_iff.mp H
    obtain ⟨⟨t699, t700, t701, t702⟩, A140, H⟩ := H
    (try dsimp only at H)
    have A14 := Aside0.mk A140
    clear A140
    replace H := Option.bind_eq_some_iff.mp H
    obtain ⟨⟨t704, t705, t706, t707⟩, A150, H⟩ := H
    (try dsimp only at H)
    have A15 := Aside0.mk A150
    clear A150
    by_cases c16 : t697 = true
    ·subst c16
     have H1 : ((num_Cmp.f t699 t700 t701 t702 a0_0 a0_1 a0_2 a0_3).bind fun t709 => (if t709 > 0 then ((num_Cmp.f t704 t705 t706 t707 a0_0 a0_1 a0_2 a0_3).bind fun t710 => (if t710 < 0 then ((num_Next.f kj2 t699 t700 t701 t702 false).bind fun bt711 => (if (bt711.1 == a0_0 && (bt711.2.1 == a0_1 && (bt711.2.2.1 == a0_2 && (bt711.2.2.2 == a0_3)))) = true then ((num_Next.f kj2 t704 t705 t706 t707 true).bind fun bt715 => (if (bt715.1 == a0_0 && (bt715.2.1 == a0_1 && (bt715.2.2.1 == a0_2 && (bt715.2.2.2 == a0_3)))) = true then ((num_Neg.f t699 t700 t701 t702).bind fun bt719 => ((num_Neg.f a0_0 a0_1 a0_2 a0_3).bind fun bt723 => ((num_Next.f kj2 bt723.1 bt723.2.1 bt723.2.2.1 bt723.2.2.2 false).bind fun bt727 => (some (bt719.1 == bt727.1 && (bt719.2.1 == bt727.2.1 && (bt719.2.2.1 == bt727.2.2.1 && (bt719.2.2.2 == bt727.2.2.2)))))))) else (some false))) else (some false))) else (some false))) else (some false))) = some r := by rw [if_pos rfl] at H; exact H
     clear H
     have H := H1
     clear H1
     replace H := Option.bind_eq_some_iff.mp H
     obtain ⟨t709, A170, H⟩ := H
     (try dsimp only at H)
     have A17 := Aside0.mk A170
     clear A170
     by_cases c18 : t709 > 0
     ·rw [if_pos c18] at H
      have c18b0 : decide (0 < t709) = true := decide_eq_true c18
      clear c18
      replace H := Option.bind_eq_some_iff.mp H
      obtain ⟨t710, A190, H⟩ := H
      (try dsimp only at H)
      have A19 := Aside0.mk A190
      clear A190
      by_cases c20 : t710 < 0
      ·rw [if_pos c20] at H
       have c20b0 : decide (t710 < 0) = true := decide_eq_true c20
       clear c20
       replace H := Option.bind_eq_some_iff.mp H
       obtain ⟨⟨t711, t712, t713, t714⟩, A210, H⟩ := H
       (try dsimp only at H)
       have A21 := Aside0.mk A210
       clear A210
       by_cases c22 : (t711 == a0_0 && (t712 == a0_1 && (t713 == a0_2 && (t714 == a0_3)))) = true
       ·rw [if_pos c22] at H
        have c22b0 : (t711 == a0_0 && (t712 == a0_1 && (t713 == a0_2 && (t714 == a0_3)))) = true := c22
        (try (have c22b1 : decide (t711 = a0_0 && (t712 == a0_1 && (t713 == a0_2 && (t714 == a0_3)))) = true := by simpa using c22))
        (try (have c22b2 : (t711 == a0_0 && (t712 == a0_1 && (t713 == a0_2 && (t714 == a0_3)))) = true := by simpa using c22))
        clear c22
        replace H := Option.bind_eq_some_iff.mp H
        obtain ⟨⟨t715, t716, t717, t718⟩, A230, H⟩ := H
        (try dsimp only at H)
        have A23 := Aside0.mk A230
        clear A230
        by_cases c24 : (t715 == a0_0 && (t716 == a0_1 && (t717 == a0_2 && (t718 == a0_3)))) = true
        ·rw [if_pos c24] at H
         have c24b0 : (t715 == a0_0 && (t716 == a0_1 && (t717 == a0_2 && (t718 == a0_3)))) = true := c24
         (try (have c24b1 : decide (t715 = a0_0 && (t716 == a0_1 && (t717 == a0_2 && (t718 == a0_3)))) = true := by simpa using c24))
         (try (have c24b2 : (t715 == a0_0 && (t716 == a0_1 && (t717 == a0_2 && (t718 == a0_3)))) = true := by simpa using c24))
         clear c24
         replace H := Option.bind_eq_some_iff.mp H
         obtain ⟨⟨t719, t720, t721, t722⟩, A250, H⟩ := H
         (try dsimp only at H)
         have A25 := Aside0.mk A250
         clear A250
         replace H := Option.bind_eq_some_iff.mp H
         obtain ⟨⟨t723, t724, t725, t726⟩, A260, H⟩ := H
         (try dsimp only at H)
         have A26 := Aside0.mk A260
         clear A260
         replace H := Option.bind_eq_some_iff.mp H
         obtain ⟨⟨t727, t728, t729, t730⟩, A270, H⟩ := H
         (try dsimp only at H)
         have A27 := Aside0.mk A270
         clear A270
         obtain rfl := Option.some.inj H
         obtain ⟨hcz28_0, hcz28_1, hcz28_2, hcz28_3, hfz28_0, hfz28_1, hfz28_2, hfz28_3⟩ := c4_ BK696
         try go_wp2_with (first | ((with_reducible refine gate_callee (f := 24) rfl ?_); refine gl_ (some 17) Tryd.func24 #[.agg #[.int .i64 a0_0, .bool a0_1, .int .u64 a0_2, .int .i64 a0_3], .bool true] ?_; (with_reducible refine (num_Next.calls kj2 a0_0 a0_1 a0_2 a0_3 true t699 t700 t701 t702 _ A14.out).mono ?_); rintro e w29 ⟨rfl, hb⟩; refine ⟨_, rfl, ?_⟩; replace BK696 := kq_ BK696 hb; replace HB := bq_ HB hb; (try clear hb); (try clear hb2); (try clear hk); (try clear hi)) | ((with_reducible refine gate_dst (N := 4) rfl ?_); refine bx_ 4 #[.int .i64 0, .bool false, .int .u64 0, .int .i64 0] 30 ?_; intro gb703 hg w30 hbox hb; have BK703 := Aside0.mk (hbox); have GW703 := ge_ hg HB; have GE703 := ge_ hg HB; have NB696_703 := nb_ hg BK696; have NB703_696 := nc_ hg BK696; replace BK696 := kq_ BK696 hb; replace HB := bq_ HB hb; clear hb hbox hg; have hnb31 := NB703_696.out; have hnc31 := NB696_703.out; obtain ⟨hcz32_0, hcz32_1, hcz32_2, hcz32_3, hfz32_0, hfz32_1, hfz32_2, hfz32_3⟩ := c4_ BK703; obtain ⟨hcz33_0, hcz33_1, hcz33_2, hcz33_3, hfz33_0, hfz33_1, hfz33_2, hfz33_3⟩ := c4_ BK696) | ((with_reducible refine gate_callee (f := 24) rfl ?_); refine gl_ (some 19) Tryd.func24 #[.agg #[.int .i64 a0_0, .bool a0_1, .int .u64 a0_2, .int .i64 a0_3], .bool false] ?_; (with_reducible refine (num_Next.calls kj2 a0_0 a0_1 a0_2 a0_3 false t704 t705 t706 t707 _ A15.out).mono ?_); rintro e w34 ⟨rfl, hb⟩; refine ⟨_, rfl, ?_⟩; have n0_ := Aside0.mk (blk_below (g := gb696) (o := .cells #[.int .i64 a0_0, .bool a0_1, .int .u64 a0_2, .int .i64 a0_3] 30 (0, 0)) (by refine kb_ ?_; refine bf_ NB696_703 ?_; refine bf_ NB696_703 ?_; refine bf_ NB696_703 ?_; refine bf_ NB696_703 ?_; exact BK696.out) hb); have n1_ := Aside0.mk (blk_below (g := gb703) (o := .cells #[.int .i64 t699, .bool t700, .int .u64 t701, .int .i64 t702] 30 (0, 0)) (by refine kb_ ?_; refine bp_ #[.int .i64 t699, .bool t700, .int .u64 t701, .int .i64 0] 3 ?_; refine bp_ #[.int .i64 t699, .bool t700, .int .u64 0, .int .i64 0] 2 ?_; refine bp_ #[.int .i64 t699, .bool false, .int .u64 0, .int .i64 0] 1 ?_; refine bp_ #[.int .i64 0, .bool false, .int .u64 0, .int .i64 0] 0 ?_; exact BK703.out) hb); have n2_ := bq_ HB hb; clear BK696; clear BK703; clear HB; have BK696 := n0_; have BK703 := n1_; have HB := n2_; clear n0_ n1_ n2_; (try clear hb); (try clear hb2); (try clear hk); (try clear hi)) | ((with_reducible refine gate_dst (N := 5) rfl ?_); refine bx_ 5 #[.int .i64 0, .bool false, .int .u64 0, .int .i64 0] 30 ?_; intro gb708 hg w35 hbox hb; have BK708 := Aside0.mk (hbox); have GW708 := ge_ hg HB; have GE708 := ge_ hg HB; have NB696_708 := nb_ hg BK696; have NB708_696 := nc_ hg BK696; have NB703_708 := nb_ hg BK703; have NB708_703 := nc_ hg BK703; replace BK696 := kq_ BK696 hb; replace BK703 := kq_ BK703 hb; replace HB := bq_ HB hb; clear hb hbox hg; have hnb36 := NB708_696.out; have hnc36 := NB696_708.out; have hnb37 := NB708_703.out; have hnc37 := NB703_708.out; obtain ⟨hcz38_0, hcz38_1, hcz38_2, hcz38_3, hfz38_0, hfz38_1, hfz38_2, hfz38_3⟩ := c4_ BK708))
         have n0_ : Aside0 (((((w35.setCell ⟨gb708, 0, none⟩ (.int .i64 t704)).setCell ⟨gb708, 1, none⟩ (.bool t705)).setCell ⟨gb708, 2, none⟩ (.int .u64 t706)).setCell ⟨gb708, 3, none⟩ (.int .i64 t707)).heap[gb696]? = some (.cells #[.int .i64 a0_0, .bool a0_1, .int .u64 a0_2, .int .i64 a0_3] 30 (0, 0))) := ⟨by refine kb_ ?_; refine bf_ NB696_708 ?_; refine bf_ NB696_708 ?_; refine bf_ NB696_708 ?_; refine bf_ NB696_708 ?_; exact BK696.out⟩
         have n1_ : Aside0 (((((w35.setCell ⟨gb708, 0, none⟩ (.int .i64 t704)).setCell ⟨gb708, 1, none⟩ (.bool t705)).setCell ⟨gb708, 2, none⟩ (.int .u64 t706)).setCell ⟨gb708, 3, none⟩ (.int .i64 t707)).heap[gb703]? = some (.cells #[.int .i64 t699, .bool t700, .int .u64 t701, .int .i64 t702] 30 (0, 0))) := ⟨by refine kb_ ?_; refine bf_ NB703_708 ?_; refine bf_ NB703_708 ?_; refine bf_ NB703_708 ?_; refine bf_ NB703_708 ?_; exact BK703.out⟩
         have n2_ : Aside0 (((((w35.setCell ⟨gb708, 0, none⟩ (.int .i64 t704)).setCell ⟨gb708, 1, none⟩ (.bool t705)).setCell ⟨gb708, 2, none⟩ (.int .u64 t706)).setCell ⟨gb708, 3, none⟩ (.int .i64 t707)).heap[gb708]? = some (.cells #[.int .i64 t704, .bool t705, .int .u64 t706, .int .i64 t707] 30 (0, 0))) := ⟨by refine kb_ ?_; refine bp_ #[.int .i64 t704, .bool t705, .int .u64 t706, .int .i64 0] 3 ?_; refine bp_ #[.int .i64 t704, .bool t705, .int .u64 0, .int .i64 0] 2 ?_; refine bp_ #[.int .i64 t704, .bool false, .int .u64 0, .int .i64 0] 1 ?_; refine bp_ #[.int .i64 0, .bool false, .int .u64 0, .int .i64 0] 0 ?_; exact BK708.out⟩
         have n3_ : Aside0 (Below w.heap.size w ((((w35.setCell ⟨gb708, 0, none⟩ (.int .i64 t704)).setCell ⟨gb708, 1, none⟩ (.bool t705)).setCell ⟨gb708, 2, none⟩ (.int .u64 t706)).setCell ⟨gb708, 3, none⟩ (.int .i64 t707))) := ⟨bw_ HB.out⟩
         (try clear BK696)
         (try clear BK703)
         (try clear BK708)
         (try clear HB)
         generalize ((((w35.setCell ⟨gb708, 0, none⟩ (.int .i64 t704)).setCell ⟨gb708, 1, none⟩ (.bool t705)).setCell ⟨gb708, 2, none⟩ (.int .u64 t706)).setCell ⟨gb708, 3, none⟩ (.int .i64 t707)) = w39 at n0_ n1_ n2_ n3_ ⊢
         have BK696 := n0_
         have BK703 := n1_
         have BK708 := n2_
         have HB := n3_
         clear n0_ n1_ n2_ n3_
         replace BK696 := Aside0.mk (blk_drew BK696.out)
         replace BK703 := Aside0.mk (blk_drew BK703.out)
         replace BK708 := Aside0.mk (blk_drew BK708.out)
         replace HB := Aside0.mk (below_drew1 HB.out)
         refine start_ (n := 34) (S := fun w' => w'.cell? ⟨gb703, 0, none⟩ = some (.int .i64 t699) ∧ w'.cell? ⟨gb703, 1, none⟩ = some (.bool t700) ∧ w'.cell? ⟨gb703, 2, none⟩ = some (.int .u64 t701) ∧ w'.cell? ⟨gb703, 3, none⟩ = some (.int .i64 t702) ∧ w'.cell? ⟨gb696, 0, none⟩ = some (.int .i64 a0_0) ∧ w'.cell? ⟨gb696, 1, none⟩ = some (.bool a0_1) ∧ w'.cell? ⟨gb696, 2, none⟩ = some (.int .u64 a0_2) ∧ w'.cell? ⟨gb696, 3, none⟩ = some (.int .i64 a0_3) ∧ w'.cell? ⟨gb708, 0, none⟩ = some (.int .i64 t704) ∧ w'.cell? ⟨gb708, 1, none⟩ = some (.bool t705) ∧ w'.cell? ⟨gb708, 2, none⟩ = some (.int .u64 t706) ∧ w'.cell? ⟨gb708, 3, none⟩ = some (.int .i64 t707)) (ds := []) #[false, false, false, false, false, false, false, false, false, false, false, false, false, false, false, false, false, false, false, false, false, false, false, false, false, false, false, false, false, false, false, false, false, false] (by kernel_rfl) rfl rfl ⟨(blk_cell BK703.out 0).trans rfl, (blk_cell BK703.out 1).trans rfl, (blk_cell BK703.out 2).trans rfl, (blk_cell BK703.out 3).trans rfl, (blk_cell BK696.out 0).trans rfl, (blk_cell BK696.out 1).trans rfl, (blk_cell BK696.out 2).trans rfl, (blk_cell BK696.out 3).trans rfl, (blk_cell BK708.out 0).trans rfl, (blk_cell BK708.out 1).trans rfl, (blk_cell BK708.out 2).trans rfl, (blk_cell BK708.out 3).trans rfl⟩ (fun hHeld => ?_); refine with_tabW peloruslaw05_NumNext.tab6 peloruslaw05_NumNext.bits6 (fun HT_ HW_ => ?_)
         generalize w39.drew = w40 at BK696 BK703 BK708 HB hHeld ⊢
         refine pure_ (i := 0) (N := some 20) (v := ?_) (a' := ?_) #[true, false, false, false, false, false, false, false, false, false, false, false, false, false, false, false, false, false, false, false, false, false, false, false, false, false, false, false, false, false, false, false, false, false] rfl rfl (any_of HT_.out (by kernel_rfl)) (fun _ _ _ h => h) (Or.inl ⟨by rfl, ?_⟩) ?_ ?_
         rotate_left
         ·intro w'
          go_simp
          with_reducible rfl
         rotate_left
         ·exact pt_
         refine pure_ (i := 1) (N := some 21) (v := ?_) (a' := ?_) #[true, true, false, false, false, false, false, false, false, false, false, false, false, false, false, false, false, false, false, false, false, false, false, false, false, false, false, false, false, false, false, false, false, false] rfl rfl (any_of HT_.out (by kernel_rfl)) (fun _ _ _ h => h) (Or.inl ⟨by rfl, ?_⟩) ?_ ?_
         rotate_left
         ·intro w'
          go_simp
          with_reducible rfl
         rotate_left
         ·exact pt_
         refine take_ (i := 2) (N := some 22) (v := ?_) (a' := ?_) #[true, true, true, false, false, false, false, false, false, false, false, false, false, false, false, false, false, false, false, false, false, false, false, false, false, false, false, false, false, false, false, false, false, false] rfl rfl (take_ofW HT_.out HW_.out (by kernel_rfl)) (fun _ _ _ h => h) (Or.inl ⟨by rfl, ?_⟩) hHeld ?_ ?_
         rotate_left
         ·rintro w' ⟨s0, s1, s2, s3, s4, s5, s6, s7, s8, s9, s10, s11⟩
          go_simp
          with_reducible rfl
         rotate_left
         ·exact pt_
         refine take_ (i := 3) (N := some 23) (v := ?_) (a' := ?_) #[true, true, true, true, false, false, false, false, false, false, false, false, false, false, false, false, false, false, false, false, false, false, false, false, false, false, false, false, false, false, false, false, false, false] rfl rfl (take_ofW HT_.out HW_.out (by kernel_rfl)) (fun _ _ _ h => h) (Or.inl ⟨by rfl, ?_⟩) hHeld ?_ ?_
         rotate_left
         ·rintro w' ⟨s0, s1, s2, s3, s4, s5, s6, s7, s8, s9, s10, s11⟩
          go_simp
          with_reducible rfl
         rotate_left
         ·exact pt_
         refine one_ (i := 4) (N := some 24) #[true, true, true, true, true, false, false, false, false, false, false, false, false, false, false, false, false, false, false, false, false, false, false, false, false, false, false, false, false, false, false, false, false, false] rfl rfl (one_of HT_.out (by kernel_rfl)) (by decide) (fun K hK => ?_)
         refine gs_ Tryd.func17 #[.agg #[.int .i64 t699, .bool t700, .int .u64 t701, .int .i64 t702], .agg #[.int .i64 a0_0, .bool a0_1, .int .u64 a0_2, .int .i64 a0_3]] ?_
         with_reducible refine (num_Cmp.calls t699 t700 t701 t702 a0_0 a0_1 a0_2 a0_3 t709 _ A17.out).mono ?_
         rintro e w41 ⟨rfl, hb⟩
         refine ⟨_, rfl, ?_⟩
         replace BK696 := kq_ BK696 hb
         replace BK703 := kq_ BK703 hb
         replace BK708 := kq_ BK708 hb
         replace HB := bq_ HB hb
         (try clear hb)
         (try clear hb2)
         (try clear hk)
         (try clear hi)
         refine hK.out _ _ ⟨(blk_cell BK703.out 0).trans rfl, (blk_cell BK703.out 1).trans rfl, (blk_cell BK703.out 2).trans rfl, (blk_cell BK703.out 3).trans rfl, (blk_cell BK696.out 0).trans rfl, (blk_cell BK696.out 1).trans rfl, (blk_cell BK696.out 2).trans rfl, (blk_cell BK696.out 3).trans rfl, (blk_cell BK708.out 0).trans rfl, (blk_cell BK708.out 1).trans rfl, (blk_cell BK708.out 2).trans rfl, (blk_cell BK708.out 3).trans rfl⟩ (fun hHeld => ?_)
         clear hK K
         refine norm_ (a' := ?_) ?_ ?_
         rotate_left
         ·show Act.put _ (some 24) _ = _
          exact pt_
         refine pure_ (i := 5) (N := some 25) (v := ?_) (a' := ?_) #[true, true, true, true, true, true, false, false, false, false, false, false, false, false, false, false, false, false, false, false, false, false, false, false, false, false, false, false, false, false, false, false, false, false] rfl rfl (any_of HT_.out (by kernel_rfl)) (fun _ _ _ h => h) (Or.inl ⟨by rfl, ?_⟩) ?_ ?_
         rotate_left
         ·intro w'
          go_simp
          with_reducible rfl
         rotate_left
         ·exact pt_
         refine pure_ (i := 6) (N := some 26) (v := ?_) (a' := ?_) #[true, true, true, true, true, true, true, false, false, false, false, false, false, false, false, false, false, false, false, false, false, false, false, false, false, false, false, false, false, false, false, false, false, false] rfl rfl (any_of HT_.out (by kernel_rfl)) (fun _ _ _ h => h) (Or.inl ⟨by rfl, ?_⟩) ?_ ?_
         rotate_left
         ·intro w'
          go_simp
          with_reducible rfl
         rotate_left
         ·exact pt_
         refine pure_ (i := 7) (N := some 27) (v := ?_) (a' := ?_) #[true, true, true, true, true, true, true, true, false, false, false, false, false, false, false, false, false, false, false, false, false, false, false, false, false, false, false, false, false, false, false, false, false, false] rfl rfl (any_of HT_.out (by kernel_rfl)) (fun _ _ _ h => h) (Or.inl ⟨by rfl, ?_⟩) ?_ ?_
         rotate_left
         ·intro w'
          go_simp
          with_reducible rfl
         rotate_left
         ·exact pt_
         refine take_ (i := 8) (N := some 28) (v := ?_) (a' := ?_) #[true, true, true, true, true, true, true, true, true, false, false, false, false, false, false, false, false, false, false, false, false, false, false, false, false, false, false, false, false, false, false, false, false, false] rfl rfl (take_ofW HT_.out HW_.out (by kernel_rfl)) (fun _ _ _ h => h) (Or.inl ⟨by rfl, ?_⟩) hHeld ?_ ?_
         rotate_left
         ·rintro w' ⟨s0, s1, s2, s3, s4, s5, s6, s7, s8, s9, s10, s11⟩
          go_simp
          with_reducible rfl
         rotate_left
         ·exact pt_
         refine take_ (i := 9) (N := some 29) (v := ?_) (a' := ?_) #[true, true, true, true, true, true, true, true, true, true, false, false, false, false, false, false, false, false, false, false, false, false, false, false, false, false, false, false, false, false, false, false, false, false] rfl rfl (take_ofW HT_.out HW_.out (by kernel_rfl)) (fun _ _ _ h => h) (Or.inl ⟨by rfl, ?_⟩) hHeld ?_ ?_
         rotate_left
         ·rintro w' ⟨s0, s1, s2, s3, s4, s5, s6, s7, s8, s9, s10, s11⟩
          go_simp
          with_reducible rfl
         rotate_left
         ·exact pt_
         refine one_ (i := 10) (N := some 30) #[true, true, true, true, true, true, true, true, true, true, true, false, false, false, false, false, false, false, false, false, false, false, false, false, false, false, false, false, false, false, false, false, false, false] rfl rfl (one_of HT_.out (by kernel_rfl)) (by decide) (fun K hK => ?_)
         refine gs_ Tryd.func17 #[.agg #[.int .i64 t704, .bool t705, .int .u64 t706, .int .i64 t707], .agg #[.int .i64 a0_0, .bool a0_1, .int .u64 a0_2, .int .i64 a0_3]] ?_
         with_reducible refine (num_Cmp.calls t704 t705 t706 t707 a0_0 a0_1 a0_2 a0_3 t710 _ A19.out).mono ?_
         rintro e w42 ⟨rfl, hb⟩
         refine ⟨_, rfl, ?_⟩
         replace BK696 := kq_ BK696 hb
         replace BK703 := kq_ BK703 hb
         replace BK708 := kq_ BK708 hb
         replace HB := bq_ HB hb
         (try clear hb)
         (try clear hb2)
         (try clear hk)
         (try clear hi)
         refine hK.out _ _ ⟨(blk_cell BK703.out 0).trans rfl, (blk_cell BK703.out 1).trans rfl, (blk_cell BK703.out 2).trans rfl, (blk_cell BK703.out 3).trans rfl, (blk_cell BK696.out 0).trans rfl, (blk_cell BK696.out 1).trans rfl, (blk_cell BK696.out 2).trans rfl, (blk_cell BK696.out 3).trans rfl, (blk_cell BK708.out 0).trans rfl, (blk_cell BK708.out 1).trans rfl, (blk_cell BK708.out 2).trans rfl, (blk_cell BK708.out 3).trans rfl⟩ (fun hHeld => ?_)
         clear hK K
         refine norm_ (a' := ?_) ?_ ?_
         rotate_left
         ·show Act.put _ (some 30) _ = _
          exact pt_
         refine pure_ (i := 11) (N := some 31) (v := ?_) (a' := ?_) #[true, true, true, true, true, true, true, true, true, true, true, true, false, false, false, false, false, false, false, false, false, false, false, false, false, false, false, false, false, false, false, false, false, false] rfl rfl (any_of HT_.out (by kernel_rfl)) (fun _ _ _ h => h) (Or.inl ⟨by rfl, ?_⟩) ?_ ?_
         rotate_left
         ·intro w'
          go_simp
          with_reducible rfl
         rotate_left
         ·exact pt_
         refine pure_ (i := 12) (N := some 32) (v := ?_) (a' := ?_) #[true, true, true, true, true, true, true, true, true, true, true, true, true, false, false, false, false, false, false, false, false, false, false, false, false, false, false, false, false, false, false, false, false, false] rfl rfl (any_of HT_.out (by kernel_rfl)) (fun _ _ _ h => h) (Or.inl ⟨by rfl, ?_⟩) ?_ ?_
         rotate_left
         ·intro w'
          go_simp
          with_reducible rfl
         rotate_left
         ·exact pt_
         refine pure_ (i := 13) (N := some 33) (v := ?_) (a' := ?_) #[true, true, true, true, true, true, true, true, true, true, true, true, true, true, false, false, false, false, false, false, false, false, false, false, false, false, false, false, false, false, false, false, false, false] rfl rfl (any_of HT_.out (by kernel_rfl)) (fun _ _ _ h => h) (Or.inl ⟨by rfl, ?_⟩) ?_ ?_
         rotate_left
         ·intro w'
          go_simp
          with_reducible rfl
         rotate_left
         ·exact pt_
         refine take_ (i := 14) (N := some 34) (v := ?_) (a' := ?_) #[true, true, true, true, true, true, true, true, true, true, true, true, true, true, true, false, false, false, false, false, false, false, false, false, false, false, false, false, false, false, false, false, false, false] rfl rfl (take_ofW HT_.out HW_.out (by kernel_rfl)) (fun _ _ _ h => h) (Or.inl ⟨by rfl, ?_⟩) hHeld ?_ ?_
         rotate_left
         ·rintro w' ⟨s0, s1, s2, s3, s4, s5, s6, s7, s8, s9, s10, s11⟩
          go_simp
          with_reducible rfl
         rotate_left
         ·exact pt_
         refine take_ (i := 16) (N := some 36) (v := ?_) (a' := ?_) #[true, true, true, true, true, true, true, true, true, true, true, true, true, true, true, false, true, false, false, false, false, false, false, false, false, false, false, false, false, false, false, false, false, false] rfl rfl (take_ofW HT_.out HW_.out (by kernel_rfl)) (fun _ _ _ h => h) (Or.inl ⟨by rfl, ?_⟩) hHeld ?_ ?_
         rotate_left
         ·rintro w' ⟨s0, s1, s2, s3, s4, s5, s6, s7, s8, s9, s10, s11⟩
          go_simp
          with_reducible rfl
         rotate_left
         ·exact pt_
         refine one_ (i := 15) (N := some 35) #[true, true, true, true, true, true, true, true, true, true, true, true, true, true, true, true, true, false, false, false, false, false, false, false, false, false, false, false, false, false, false, false, false, false] rfl rfl (one_of HT_.out (by kernel_rfl)) (by decide) (fun K hK => ?_)
         refine gs_ Tryd.func24 #[.agg #[.int .i64 t699, .bool t700, .int .u64 t701, .int .i64 t702], .bool false] ?_
         with_reducible refine (num_Next.calls kj2 t699 t700 t701 t702 false t711 t712 t713 t714 _ A21.out).mono ?_
         rintro e w43 ⟨rfl, hb⟩
         refine ⟨_, rfl, ?_⟩
         replace BK696 := kq_ BK696 hb
         replace BK703 := kq_ BK703 hb
         replace BK708 := kq_ BK708 hb
         replace HB := bq_ HB hb
         (try clear hb)
         (try clear hb2)
         (try clear hk)
         (try clear hi)
         refine hK.out _ _ ⟨(blk_cell BK703.out 0).trans rfl, (blk_cell BK703.out 1).trans rfl, (blk_cell BK703.out 2).trans rfl, (blk_cell BK703.out 3).trans rfl, (blk_cell BK696.out 0).trans rfl, (blk_cell BK696.out 1).trans rfl, (blk_cell BK696.out 2).trans rfl, (blk_cell BK696.out 3).trans rfl, (blk_cell BK708.out 0).trans rfl, (blk_cell BK708.out 1).trans rfl, (blk_cell BK708.out 2).trans rfl, (blk_cell BK708.out 3).trans rfl⟩ (fun hHeld => ?_)
         clear hK K
         refine norm_ (a' := ?_) ?_ ?_
         rotate_left
         ·show Act.put _ (some 35) _ = _
          exact pt_
         refine pure_ (i := 17) (N := some 37) (v := ?_) (a' := ?_) #[true, true, true, true, true, true, true, true, true, true, true, true, true, true, true, true, true, true, false, false, false, false, false, false, false, false, false, false, false, false, false, false, false, false] rfl rfl (any_of HT_.out (by kernel_rfl)) (fun _ _ _ h => h) (Or.inl ⟨by rfl, ?_⟩) ?_ ?_
         rotate_left
         ·intro w'
          go_simp
          with_reducible rfl
         rotate_left
         ·exact pt_
         refine pure_ (i := 18) (N := some 38) (v := ?_) (a' := ?_) #[true, true, true, true, true, true, true, true, true, true, true, true, true, true, true, true, true, true, true, false, false, false, false, false, false, false, false, false, false, false, false, false, false, false] rfl rfl (any_of HT_.out (by kernel_rfl)) (fun _ _ _ h => h) (Or.inl ⟨by rfl, ?_⟩) ?_ ?_
         rotate_left
         ·intro w'
          go_simp
          with_reducible rfl
         rotate_left
         ·exact pt_
         refine pure_ (i := 19) (N := some 39) (v := ?_) (a' := ?_) #[true, true, true, true, true, true, true, true, true, true, true, true, true, true, true, true, true, true, true, true, false, false, false, false, false, false, false, false, false, false, false, false, false, false] rfl rfl (any_of HT_.out (by kernel_rfl)) (fun _ _ _ h => h) (Or.inl ⟨by rfl, ?_⟩) ?_ ?_
         rotate_left
         ·intro w'
          go_simp
          with_reducible rfl
         rotate_left
         ·exact pt_
         refine take_ (i := 20) (N := some 40) (v := ?_) (a' := ?_) #[true, true, true, true, true, true, true, true, true, true, true, true, true, true, true, true, true, true, true, true, true, false, false, false, false, false, false, false, false, false, false, false, false, false] rfl rfl (take_ofW HT_.out HW_.out (by kernel_rfl)) (fun _ _ _ h => h) (Or.inl ⟨by rfl, ?_⟩) hHeld ?_ ?_
         rotate_left
         ·rintro w' ⟨s0, s1, s2, s3, s4, s5, s6, s7, s8, s9, s10, s11⟩
          go_simp
          with_reducible rfl
         rotate_left
         ·exact pt_
         refine take_ (i := 22) (N := some 42) (v := ?_) (a' := ?_) #[true, true, true, true, true, true, true, true, true, true, true, true, true, true, true, true, true, true, true, true, true, false, true, false, false, false, false, false, false, false, false, false, false, false] rfl rfl (take_ofW HT_.out HW_.out (by kernel_rfl)) (fun _ _ _ h => h) (Or.inl ⟨by rfl, ?_⟩) hHeld ?_ ?_
         rotate_left
         ·rintro w' ⟨s0, s1, s2, s3, s4, s5, s6, s7, s8, s9, s10, s11⟩
          go_simp
          with_reducible rfl
         rotate_left
         ·exact pt_
         refine one_ (i := 21) (N := some 41) #[true, true, true, true, true, true, true, true, true, true, true, true, true, true, true, true, true, true, true, true, true, true, true, false, false, false, false, false, false, false, false, false, false, false] rfl rfl (one_of HT_.out (by kernel_rfl)) (by decide) (fun K hK => ?_)
         refine gs_ Tryd.func24 #[.agg #[.int .i64 t704, .bool t705, .int .u64 t706, .int .i64 t707], .bool true] ?_
         with_reducible refine (num_Next.calls kj2 t704 t705 t706 t707 true t715 t716 t717 t718 _ A23.out).mono ?_
         rintro e w44 ⟨rfl, hb⟩
         refine ⟨_, rfl, ?_⟩
         replace BK696 := kq_ BK696 hb
         replace BK703 := kq_ BK703 hb
         replace BK708 := kq_ BK708 hb
         replace HB := bq_ HB hb
         (try clear hb)
         (try clear hb2)
         (try clear hk)
         (try clear hi)
         refine hK.out _ _ ⟨(blk_cell BK703.out 0).trans rfl, (blk_cell BK703.out 1).trans rfl, (blk_cell BK703.out 2).trans rfl, (blk_cell BK703.out 3).trans rfl, (blk_cell BK696.out 0).trans rfl, (blk_cell BK696.out 1).trans rfl, (blk_cell BK696.out 2).trans rfl, (blk_cell BK696.out 3).trans rfl, (blk_cell BK708.out 0).trans rfl, (blk_cell BK708.out 1).trans rfl, (blk_cell BK708.out 2).trans rfl, (blk_cell BK708.out 3).trans rfl⟩ (fun hHeld => ?_)
         clear hK K
         refine norm_ (a' := ?_) ?_ ?_
         rotate_left
         ·show Act.put _ (some 41) _ = _
          exact pt_
         refine pure_ (i := 23) (N := some 43) (v := ?_) (a' := ?_) #[true, true, true, true, true, true, true, true, true, true, true, true, true, true, true, true, true, true, true, true, true, true, true, true, false, false, false, false, false, false, false, false, false, false] rfl rfl (any_of HT_.out (by kernel_rfl)) (fun _ _ _ h => h) (Or.inl ⟨by rfl, ?_⟩) ?_ ?_
         rotate_left
         ·intro w'
          go_simp
          with_reducible rfl
         rotate_left
         ·exact pt_
         refine pure_ (i := 24) (N := some 44) (v := ?_) (a' := ?_) #[true, true, true, true, true, true, true, true, true, true, true, true, true, true, true, true, true, true, true, true, true, true, true, true, true, false, false, false, false, false, false, false, false, false] rfl rfl (any_of HT_.out (by kernel_rfl)) (fun _ _ _ h => h) (Or.inl ⟨by rfl, ?_⟩) ?_ ?_
         rotate_left
         ·intro w'
          go_simp
          with_reducible rfl
         rotate_left
         ·exact pt_
         refine pure_ (i := 25) (N := some 45) (v := ?_) (a' := ?_) #[true, true, true, true, true, true, true, true, true, true, true, true, true, true, true, true, true, true, true, true, true, true, true, true, true, true, false, false, false, false, false, false, false, false] rfl rfl (any_of HT_.out (by kernel_rfl)) (fun _ _ _ h => h) (Or.inl ⟨by rfl, ?_⟩) ?_ ?_
         rotate_left
         ·intro w'
          go_simp
          with_reducible rfl
         rotate_left
         ·exact pt_
         refine take_ (i := 26) (N := some 46) (v := ?_) (a' := ?_) #[true, true, true, true, true, true, true, true, true, true, true, true, true, true, true, true, true, true, true, true, true, true, true, true, true, true, true, false, false, false, false, false, false, false] rfl rfl (take_ofW HT_.out HW_.out (by kernel_rfl)) (fun _ _ _ h => h) (Or.inl ⟨by rfl, ?_⟩) hHeld ?_ ?_
         rotate_left
         ·rintro w' ⟨s0, s1, s2, s3, s4, s5, s6, s7, s8, s9, s10, s11⟩
          go_simp
          with_reducible rfl
         rotate_left
         ·exact pt_
         refine take_ (i := 28) (N := some 48) (v := ?_) (a' := ?_) #[true, true, true, true, true, true, true, true, true, true, true, true, true, true, true, true, true, true, true, true, true, true, true, true, true, true, true, false, true, false, false, false, false, false] rfl rfl (take_ofW HT_.out HW_.out (by kernel_rfl)) (fun _ _ _ h => h) (Or.inl ⟨by rfl, ?_⟩) hHeld ?_ ?_
         rotate_left
         ·rintro w' ⟨s0, s1, s2, s3, s4, s5, s6, s7, s8, s9, s10, s11⟩
          go_simp
          with_reducible rfl
         rotate_left
         ·exact pt_
         refine one_ (i := 27) (N := some 47) #[true, true, true, true, true, true, true, true, true, true, true, true, true, true, true, true, true, true, true, true, true, true, true, true, true, true, true, true, true, false, false, false, false, false] rfl rfl (one_of HT_.out (by kernel_rfl)) (by decide) (fun K hK => ?_)
         refine gs_ Tryd.func16 #[.agg #[.int .i64 t699, .bool t700, .int .u64 t701, .int .i64 t702]] ?_
         with_reducible refine (num_Neg.calls t699 t700 t701 t702 t719 t720 t721 t722 _ A25.out).mono ?_
         rintro e w45 ⟨rfl, hb⟩
         refine ⟨_, rfl, ?_⟩
         replace BK696 := kq_ BK696 hb
         replace BK703 := kq_ BK703 hb
         replace BK708 := kq_ BK708 hb
         replace HB := bq_ HB hb
         (try clear hb)
         (try clear hb2)
         (try clear hk)
         (try clear hi)
         refine hK.out _ _ ⟨(blk_cell BK703.out 0).trans rfl, (blk_cell BK703.out 1).trans rfl, (blk_cell BK703.out 2).trans rfl, (blk_cell BK703.out 3).trans rfl, (blk_cell BK696.out 0).trans rfl, (blk_cell BK696.out 1).trans rfl, (blk_cell BK696.out 2).trans rfl, (blk_cell BK696.out 3).trans rfl, (blk_cell BK708.out 0).trans rfl, (blk_cell BK708.out 1).trans rfl, (blk_cell BK708.out 2).trans rfl, (blk_cell BK708.out 3).trans rfl⟩ (fun hHeld => ?_)
         clear hK K
         refine norm_ (a' := ?_) ?_ ?_
         rotate_left
         ·show Act.put _ (some 47) _ = _
          exact pt_
         refine one_ (i := 29) (N := some 49) #[true, true, true, true, true, true, true, true, true, true, true, true, true, true, true, true, true, true, true, true, true, true, true, true, true, true, true, true, true, true, false, false, false, false] rfl rfl (one_of HT_.out (by kernel_rfl)) (by decide) (fun K hK => ?_)
         refine gs_ Tryd.func16 #[.agg #[.int .i64 a0_0, .bool a0_1, .int .u64 a0_2, .int .i64 a0_3]] ?_
         with_reducible refine (num_Neg.calls a0_0 a0_1 a0_2 a0_3 t723 t724 t725 t726 _ A26.out).mono ?_
         rintro e w46 ⟨rfl, hb⟩
         refine ⟨_, rfl, ?_⟩
         replace BK696 := kq_ BK696 hb
         replace BK703 := kq_ BK703 hb
         replace BK708 := kq_ BK708 hb
         replace HB := bq_ HB hb
         (try clear hb)
         (try clear hb2)
         (try clear hk)
         (try clear hi)
         refine hK.out _ _ ⟨(blk_cell BK703.out 0).trans rfl, (blk_cell BK703.out 1).trans rfl, (blk_cell BK703.out 2).trans rfl, (blk_cell BK703.out 3).trans rfl, (blk_cell BK696.out 0).trans rfl, (blk_cell BK696.out 1).trans rfl, (blk_cell BK696.out 2).trans rfl, (blk_cell BK696.out 3).trans rfl, (blk_cell BK708.out 0).trans rfl, (blk_cell BK708.out 1).trans rfl, (blk_cell BK708.out 2).trans rfl, (blk_cell BK708.out 3).trans rfl⟩ (fun hHeld => ?_)
         clear hK K
         refine norm_ (a' := ?_) ?_ ?_
         rotate_left
         ·show Act.put _ (some 49) _ = _
          exact pt_
         refine one_ (i := 30) (N := some 50) #[true, true, true, true, true, true, true, true, true, true, true, true, true, true, true, true, true, true, true, true, true, true, true, true, true, true, true, true, true, true, true, false, false, false] rfl rfl (one_of HT_.out (by kernel_rfl)) (by decide) (fun K hK => ?_)
         refine gs_ Tryd.func24 #[.agg #[.int .i64 t723, .bool t724, .int .u64 t725, .int .i64 t726], .bool false] ?_
         with_reducible refine (num_Next.calls kj2 t723 t724 t725 t726 false t727 t728 t729 t730 _ A27.out).mono ?_
         rintro e w47 ⟨rfl, hb⟩
         refine ⟨_, rfl, ?_⟩
         replace BK696 := kq_ BK696 hb
         replace BK703 := kq_ BK703 hb
         replace BK708 := kq_ BK708 hb
         replace HB := bq_ HB hb
         (try clear hb)
         (try clear hb2)
         (try clear hk)
         (try clear hi)
         refine hK.out _ _ ⟨(blk_cell BK703.out 0).trans rfl, (blk_cell BK703.out 1).trans rfl, (blk_cell BK703.out 2).trans rfl, (blk_cell BK703.out 3).trans rfl, (blk_cell BK696.out 0).trans rfl, (blk_cell BK696.out 1).trans rfl, (blk_cell BK696.out 2).trans rfl, (blk_cell BK696.out 3).trans rfl, (blk_cell BK708.out 0).trans rfl, (blk_cell BK708.out 1).trans rfl, (blk_cell BK708.out 2).trans rfl, (blk_cell BK708.out 3).trans rfl⟩ (fun hHeld => ?_)
         clear hK K
         refine norm_ (a' := ?_) ?_ ?_
         rotate_left
         ·show Act.put _ (some 50) _ = _
          exact pt_
         refine pure_ (i := 31) (N := some 51) (v := ?_) (a' := ?_) #[true, true, true, true, true, true, true, true, true, true, true, true, true, true, true, true, true, true, true, true, true, true, true, true, true, true, true, true, true, true, true, true, false, false] rfl rfl (any_of HT_.out (by kernel_rfl)) (fun _ _ _ h => h) (Or.inl ⟨by rfl, ?_⟩) ?_ ?_
         rotate_left
         ·intro w'
          go_simp
          with_reducible rfl
         rotate_left
         ·exact pt_
         refine pure_ (i := 32) (N := some 52) (v := ?_) (a' := ?_) #[true, true, true, true, true, true, true, true, true, true, true, true, true, true, true, true, true, true, true, true, true, true, true, true, true, true, true, true, true, true, true, true, true, false] rfl rfl (any_of HT_.out (by kernel_rfl)) (fun _ _ _ h => h) (Or.inl ⟨by rfl, ?_⟩) ?_ ?_
         rotate_left
         ·intro w'
          go_simp
          with_reducible rfl
         rotate_left
         ·exact pt_
         refine pure_ (i := 33) (N := some 2) (v := ?_) (a' := ?_) #[true, true, true, true, true, true, true, true, true, true, true, true, true, true, true, true, true, true, true, true, true, true, true, true, true, true, true, true, true, true, true, true, true, true] rfl rfl (any_of HT_.out (by kernel_rfl)) (fun _ _ _ h => h) (Or.inl ⟨by rfl, ?_⟩) ?_ ?_
         rotate_left
         ·intro w'
          go_simp
          with_reducible rfl
         rotate_left
         ·exact pt_
         refine done_ (done_of HT_.out (by kernel_rfl)) ?_
         try go_wp2
         go_ret
         exact ⟨rf_, bw_ HB.out⟩
        ·rw [if_neg c24] at H
         have c24b0 : (t715 == a0_0 && (t716 == a0_1 && (t717 == a0_2 && (t718 == a0_3)))) = false := by simpa using c24
         (try (have c24b1 : decide (t715 = a0_0 && (t716 == a0_1 && (t717 == a0_2 && (t718 == a0_3)))) = false := by simpa using c24))
         (try (have c24b2 : (t715 == a0_0 && (t716 == a0_1 && (t717 == a0_2 && (t718 == a0_3)))) = false := by simpa using c24))
         (try (have c24b3 : ¬ (t715 = a0_0 && (t716 == a0_1 && (t717 == a0_2 && (t718 == a0_3)))) := by simpa using c24))
         clear c24
         exact absurd ((Option.some.inj H).trans HRT_.out) (by simp)
       ·rw [if_neg c22] at H
        have c22b0 : (t711 == a0_0 && (t712 == a0_1 && (t713 == a0_2 && (t714 == a0_3)))) = false := by simpa using c22
        (try (have c22b1 : decide (t711 = a0_0 && (t712 == a0_1 && (t713 == a0_2 && (t714 == a0_3)))) = false := by simpa using c22))
        (try (have c22b2 : (t711 == a0_0 && (t712 == a0_1 && (t713 == a0_2 && (t714 == a0_3)))) = false := by simpa using c22))
        (try (have c22b3 : ¬ (t711 = a0_0 && (t712 == a0_1 && (t713 == a0_2 && (t714 == a0_3)))) := by simpa using c22))
        clear c22
        exact absurd ((Option.some.inj H).trans HRT_.out) (by simp)
      ·rw [if_neg c20] at H
       have c20b0 : decide (t710 < 0) = false := decide_eq_false c20
       clear c20
       exact absurd ((Option.some.inj H).trans HRT_.out) (by simp)
     ·rw [if_neg c18] at H
      have c18b0 : decide (0 < t709) = false := decide_eq_false c18
      clear c18
      exact absurd ((Option.some.inj H).trans HRT_.out) (by simp)
    ·replace c16 := Bool.eq_false_iff.mpr c16
     subst c16
     have H1 : (some false) = some r := by rw [if_neg (show ¬ (false = true) by decide)] at H; exact H
     clear H
     have H := H1
     clear H1
     exact absurd ((Option.some.inj H).trans HRT_.out) (by simp)


end Go.Proofs.YtkemnoejpbknhaaDoor.PA
