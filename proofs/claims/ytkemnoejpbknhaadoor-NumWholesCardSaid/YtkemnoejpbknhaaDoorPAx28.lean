-- Laid by this work's own program; Lean checks it.
import Derived.Test.YtkemnoejpbknhaaDoorPAx0
import Derived.Test.YtkemnoejpbknhaaDoorPAx1
import Derived.Test.YtkemnoejpbknhaaDoorPAx2
import Derived.Test.YtkemnoejpbknhaaDoorPAx6
import Derived.Test.YtkemnoejpbknhaaDoorPAx7
import Derived.Test.YtkemnoejpbknhaaDoorPAx9
import Derived.Test.YtkemnoejpbknhaaDoorPAx10
import Derived.Test.YtkemnoejpbknhaaDoorPAx11
import Derived.Test.YtkemnoejpbknhaaDoorPAx26
namespace Go.Proofs.YtkemnoejpbknhaaDoor.PA
open Go.RowKit Go.Proofs.YtkemnoejpbknhaaDoorW.PrintWords Go.Proofs.YtkemnoejpbknhaaDoorW.PrintLast Go.Proofs.YtkemnoejpbknhaaDoorW.PrintMore
attribute [local go_sem] max2_int min2_int max_two min_two max_three min_three max_four min_four   -- for this text's walks alone
set_option linter.unusedVariables false
set_option linter.unusedSimpArgs false

attribute [local go_sem ↓ high] isSome_set_
attribute [local go_sem high] eqA30
/-! ### peloruslaw05_NumWholes: function 4 -/
set_option maxHeartbeats 8000000 in
set_option maxRecDepth 100000 in
theorem peloruslaw05_NumWholes.calls (k : Nat) (a0 : Int) (a1 : Int) (r : Bool) (w : World) (hr_ : r = true) (haw_ : ∀ r, peloruslaw05_awake.f k = some r → r = true) (h : peloruslaw05_NumWholes.f k a0 a1 = some r) (htab_ : Kd.C (Kd.int .u8) w (some ⟨0, 0, none⟩) 32 tz32tab) :
  Calls Tryd.prog 4 #[.int .i64 a0, .int .i64 a1] w fun e w' => e = .returned (.bool r) ∧ Below w.heap.size w w' := by
 have HTAB := Aside0.mk htab_
 clear htab_
 have HRT_ := Aside0.mk hr_
 clear hr_
 have HAW_ := Aside0.mk haw_
 clear haw_
 have hu30 := Tryd.underlying30
 have HB := Aside0.mk (Below.refl w.heap.size w)
 have H : ((peloruslaw05_awake.f k).bind fun t519 => ((num_Of.f k a0).bind fun bt520 => ((num_Of.f k a1).bind fun bt525 => (if a0 < a1 then (peloruslaw05_NumWholes.j0 k a0 a1 t519 (-1) bt520.1 bt520.2.1 bt520.2.2.1 bt520.2.2.2 bt525.1 bt525.2.1 bt525.2.2.1 bt525.2.2.2) else (peloruslaw05_NumWholes.j0 k a0 a1 t519 0 bt520.1 bt520.2.1 bt520.2.2.1 bt520.2.2.2 bt525.1 bt525.2.1 bt525.2.2.1 bt525.2.2.2))))) = some r := h
 clear h
 replace H := Option.bind_eq_some_iff.mp H
 obtain ⟨t519, A30, H⟩ := H
 (try dsimp only at H)
 have A3 := Aside0.mk A30
 clear A30
 replace H := Option.bind_eq_some_iff.mp H
 obtain ⟨⟨t520, t521, t522, t523⟩, A40, H⟩ := H
 (try dsimp only at H)
 have A4 := Aside0.mk A40
 clear A40
 replace H := Option.bind_eq_some_iff.mp H
 obtain ⟨⟨t525, t526, t527, t528⟩, A50, H⟩ := H
 (try dsimp only at H)
 have A5 := Aside0.mk A50
 clear A50
 have HC6 := Aside0.mk H
 clear H
 go_enter Tryd.func4, Tryd.ntmps4
 go_upto_if 17 with (first | ((with_reducible refine gate_callee (f := 11) rfl ?_); refine gl_ (some 10) Tryd.func11 #[] ?_; (with_reducible refine (peloruslaw05_awake.calls k  t519 _ (HAW_.out _ A3.out) A3.out ?sidet).mono ?_); (case sidet => exact Kd.C_below HTAB.out (bw_ HB.out)); rintro e w7 ⟨rfl, hb⟩; refine ⟨_, rfl, ?_⟩; replace HB := bq_ HB hb; (try clear hb); (try clear hb2); (try clear hk); (try clear hi)) | ((with_reducible refine gate_callee (f := 15) rfl ?_); refine gl_ (some 12) Tryd.func15 #[.int .i64 a0] ?_; (with_reducible refine (num_Of.calls k a0 t520 t521 t522 t523 _ A4.out).mono ?_); rintro e w8 ⟨rfl, hb⟩; refine ⟨_, rfl, ?_⟩; replace HB := bq_ HB hb; (try clear hb); (try clear hb2); (try clear hk); (try clear hi)) | ((with_reducible refine gate_dst (N := 6) rfl ?_); refine bx_ 6 #[.int .i64 0, .bool false, .int .u64 0, .int .i64 0] 30 ?_; intro gb524 hg w9 hbox hb; have BK524 := Aside0.mk (hbox); have GW524 := ge_ hg HB; have GE524 := ge_ hg HB; replace HB := bq_ HB hb; clear hb hbox hg; obtain ⟨hcz10_0, hcz10_1, hcz10_2, hcz10_3, hfz10_0, hfz10_1, hfz10_2, hfz10_3⟩ := c4_ BK524) | ((with_reducible refine gate_callee (f := 15) rfl ?_); refine gl_ (some 14) Tryd.func15 #[.int .i64 a1] ?_; (with_reducible refine (num_Of.calls k a1 t525 t526 t527 t528 _ A5.out).mono ?_); rintro e w11 ⟨rfl, hb⟩; refine ⟨_, rfl, ?_⟩; have n0_ := Aside0.mk (blk_below (g := gb524) (o := .cells #[.int .i64 t520, .bool t521, .int .u64 t522, .int .i64 t523] 30 (0, 0)) (by refine kb_ ?_; refine bp_ #[.int .i64 t520, .bool t521, .int .u64 t522, .int .i64 0] 3 ?_; refine bp_ #[.int .i64 t520, .bool t521, .int .u64 0, .int .i64 0] 2 ?_; refine bp_ #[.int .i64 t520, .bool false, .int .u64 0, .int .i64 0] 1 ?_; refine bp_ #[.int .i64 0, .bool false, .int .u64 0, .int .i64 0] 0 ?_; exact BK524.out) hb); have n1_ := bq_ HB hb; clear BK524; clear HB; have BK524 := n0_; have HB := n1_; clear n0_ n1_; (try clear hb); (try clear hb2); (try clear hk); (try clear hi)) | ((with_reducible refine gate_dst (N := 7) rfl ?_); refine bx_ 7 #[.int .i64 0, .bool false, .int .u64 0, .int .i64 0] 30 ?_; intro gb529 hg w12 hbox hb; have BK529 := Aside0.mk (hbox); have GW529 := ge_ hg HB; have GE529 := ge_ hg HB; have NB524_529 := nb_ hg BK524; have NB529_524 := nc_ hg BK524; replace BK524 := kq_ BK524 hb; replace HB := bq_ HB hb; clear hb hbox hg; have hnb13 := NB529_524.out; have hnc13 := NB524_529.out; obtain ⟨hcz14_0, hcz14_1, hcz14_2, hcz14_3, hfz14_0, hfz14_1, hfz14_2, hfz14_3⟩ := c4_ BK529))
 (try simp only [Act.put, List.setIfInBounds_toArray, List.set_cons_zero, List.set_cons_succ])
 go_cut [8] (fun v8 wc => ∃ (kq : Nat) (x8_5 : Int), v8 = .int .i64 x8_5 ∧ Aside0 (peloruslaw05_NumWholes.j0 kq a0 a1 t519 x8_5 t520 t521 t522 t523 t525 t526 t527 t528 = some r) ∧ Aside0 (kq ≤ k) ∧ Aside0 (wc.heap[gb524]? = some (.cells #[.int .i64 t520, .bool t521, .int .u64 t522, .int .i64 t523] 30 (0, 0))) ∧ Aside0 (wc.heap[gb529]? = some (.cells #[.int .i64 t525, .bool t526, .int .u64 t527, .int .i64 t528] 30 (0, 0))) ∧ Aside0 (Below w.heap.size w wc))
 case first =>
  have H := HC6.out
  clear HC6
  by_cases c15 : a0 < a1
  ·rw [if_pos c15] at H
   have c15b0 : decide (a0 < a1) = true := decide_eq_true c15
   clear c15
   (first | rw [c15b0] | (simp only [i64_w, i32_w]; rw [c15b0]) | skip)
   have H' := Aside0.mk H
   clear H
   go_wp2
   go_meet
   case rel => exact ⟨_, ((-1)), (by first | rfl | (simp; done) | (simp [*]; done)), H', ⟨by first | omega | exact Nat.le_refl _⟩, ⟨by refine kb_ ?_; refine bf_ NB524_529 ?_; refine bf_ NB524_529 ?_; refine bf_ NB524_529 ?_; refine bf_ NB524_529 ?_; exact BK524.out⟩, ⟨by refine kb_ ?_; refine bp_ #[.int .i64 t525, .bool t526, .int .u64 t527, .int .i64 0] 3 ?_; refine bp_ #[.int .i64 t525, .bool t526, .int .u64 0, .int .i64 0] 2 ?_; refine bp_ #[.int .i64 t525, .bool false, .int .u64 0, .int .i64 0] 1 ?_; refine bp_ #[.int .i64 0, .bool false, .int .u64 0, .int .i64 0] 0 ?_; exact BK529.out⟩, ⟨bw_ HB.out⟩⟩
  ·rw [if_neg c15] at H
   have c15b0 : decide (a0 < a1) = false := decide_eq_false c15
   clear c15
   (first | rw [c15b0] | (simp only [i64_w, i32_w]; rw [c15b0]) | skip)
   have H' := Aside0.mk H
   clear H
   go_wp2
   go_meet
   case rel => exact ⟨_, (0), (by first | rfl | (simp; done) | (simp [*]; done)), H', ⟨by first | omega | exact Nat.le_refl _⟩, ⟨by refine kb_ ?_; refine bf_ NB524_529 ?_; refine bf_ NB524_529 ?_; refine bf_ NB524_529 ?_; refine bf_ NB524_529 ?_; exact BK524.out⟩, ⟨by refine kb_ ?_; refine bp_ #[.int .i64 t525, .bool t526, .int .u64 t527, .int .i64 0] 3 ?_; refine bp_ #[.int .i64 t525, .bool t526, .int .u64 0, .int .i64 0] 2 ?_; refine bp_ #[.int .i64 t525, .bool false, .int .u64 0, .int .i64 0] 1 ?_; refine bp_ #[.int .i64 0, .bool false, .int .u64 0, .int .i64 0] 0 ?_; exact BK529.out⟩, ⟨bw_ HB.out⟩⟩
 case rest =>
  clear HC6
  try clear c1
  try clear p2
  try clear c4
  try clear c11
  try clear c13
  try clear c15
  try clear c15b0
  try clear hcz10_0 hcz10_1 hcz10_2 hcz10_3
  try clear hcz14_0 hcz14_1 hcz14_2 hcz14_3
  try clear hfz10_0 hfz10_1 hfz10_2 hfz10_3
  try clear hfz14_0 hfz14_1 hfz14_2 hfz14_3
  obtain ⟨kq, x8_5, rfl, HA, HJ5, BK524, BK529, HB⟩ := hcut
  cases kq with
  | zero => exact absurd HA.out (by simp [peloruslaw05_NumWholes.j0])
  | succ kj5 =>
   have H := HA.out
   clear HA
   simp only [peloruslaw05_NumWholes.j0] at H
   have HC16 := Aside0.mk H
   clear H
   go_upto_if 20 with (fail)
   go_cut [8] (fun v8 wc => ∃ (kq : Nat) (x8_15 : Int), v8 = .int .i64 x8_15 ∧ Aside0 (peloruslaw05_NumWholes.j1 kq a0 a1 t519 x8_15 t520 t521 t522 t523 t525 t526 t527 t528 = some r) ∧ Aside0 (kq ≤ kj5) ∧ Aside0 (wc.heap[gb524]? = some (.cells #[.int .i64 t520, .bool t521, .int .u64 t522, .int .i64 t523] 30 (0, 0))) ∧ Aside0 (wc.heap[gb529]? = some (.cells #[.int .i64 t525, .bool t526, .int .u64 t527, .int .i64 t528] 30 (0, 0))) ∧ Aside0 (Below w.heap.size w wc))
   case first =>
    have H := HC16.out
    clear HC16
    by_cases c17 : a0 > a1
    ·rw [if_pos c17] at H
     have c17b0 : decide (a1 < a0) = true := decide_eq_true c17
     clear c17
     (first | rw [c17b0] | (simp only [i64_w, i32_w]; rw [c17b0]) | skip)
     have H' := Aside0.mk H
     clear H
     go_wp2
     go_meet
     case rel => exact ⟨_, (1), (by first | rfl | (simp; done) | (simp [*]; done)), H', ⟨by have := HJ5.out; first | omega | exact Nat.le_refl _⟩, ⟨kb_ BK524.out⟩, ⟨kb_ BK529.out⟩, ⟨bw_ HB.out⟩⟩
    ·rw [if_neg c17] at H
     have c17b0 : decide (a1 < a0) = false := decide_eq_false c17
     clear c17
     (first | rw [c17b0] | (simp only [i64_w, i32_w]; rw [c17b0]) | skip)
     have H' := Aside0.mk H
     clear H
     go_wp2
     go_meet
     case rel => exact ⟨_, (x8_5), (by first | rfl | (simp; done) | (simp [*]; done)), H', ⟨by have := HJ5.out; first | omega | exact Nat.le_refl _⟩, ⟨kb_ BK524.out⟩, ⟨kb_ BK529.out⟩, ⟨bw_ HB.out⟩⟩
   case rest =>
    clear HC16
    try clear c1
    try clear p2
    try clear c4
    try clear c11
    try clear c13
    try clear c15
    try clear c15b0
    try clear c17
    try clear c17b0
    try clear hcz10_0 hcz10_1 hcz10_2 hcz10_3
    try clear hcz14_0 hcz14_1 hcz14_2 hcz14_3
    try clear hfz10_0 hfz10_1 hfz10_2 hfz10_3
    try clear hfz14_0 hfz14_1 hfz14_2 hfz14_3
    try clear p2
    obtain ⟨kq, x8_15, rfl, HA, HJ15, BK524, BK529, HB⟩ := hcut
    cases kq with
    | zero => exact absurd HA.out (by simp [peloruslaw05_NumWholes.j1])
    | succ kj15 =>
     have H := HA.out
     clear HA
     simp only [peloruslaw05_NumWholes.j1] at H
     by_cases c18 : a0 > (-9223372036854775808)
     ·rw [if_pos c18] at H
      have c18b0 : decide ((-9223372036854775808) < a0) = true := decide_eq_true c18
      clear c18
      replace H := Option.bind_eq_some_iff.mp H
      obtain ⟨⟨t530, t531, t532, t533⟩, A190, H⟩ := H
      (try dsimp only at H)
      have A19 := Aside0.mk A190
      clear A190
      replace H := Option.bind_eq_some_iff.mp H
      obtain ⟨⟨t534, t535, t536, t537⟩, A200, H⟩ := H
      (try dsimp only at H)
      have A20 := Aside0.mk A200
      clear A200
      by_cases c21 : t519 = true
      ·subst c21
       have H1 : ((num_Cmp.f t520 t521 t522 t523 t525 t526 t527 t528).bind fun t538 => (if t538 = x8_15 then ((num_May.f t520 t521 t522 t523).bind fun t539 => (if t539 = true then (if ((!(t530 == t534) || (!(t531 == t535) || (!(t532 == t536) || (!(t533 == t537))))) = true) then (some false) else ((num_Sign.f t520 t521 t522 t523).bind fun t540 => (if ((t540 == 0) == (a0 == 0)) = true then (if ((t520 == t525 && (t521 == t526 && (t522 == t527 && (t523 == t528)))) == (a0 == a1)) = true then (some (t520 != 2)) else (some false)) else (some false)))) else (some false))) else (some false))) = some r := by rw [if_pos rfl] at H; exact H
       clear H
       have H := H1
       clear H1
       replace H := Option.bind_eq_some_iff.mp H
       obtain ⟨t538, A220, H⟩ := H
       (try dsimp only at H)
       have A22 := Aside0.mk A220
       clear A220
       by_cases c23 : t538 = x8_15
       ·rw [if_pos c23] at H
        have c23b0 : (t538 == x8_15) = true := beq_iff_eq.mpr c23
        have c23b1 : (t538 != x8_15) = false := bne_eq_false_iff_eq.mpr c23
        clear c23
        replace H := Option.bind_eq_some_iff.mp H
        obtain ⟨t539, A240, H⟩ := H
        (try dsimp only at H)
        have A24 := Aside0.mk A240
        clear A240
        by_cases c25 : t539 = true
        ·subst c25
         have H1 : (if ((!(t530 == t534) || (!(t531 == t535) || (!(t532 == t536) || (!(t533 == t537))))) = true) then (some false) else ((num_Sign.f t520 t521 t522 t523).bind fun t540 => (if ((t540 == 0) == (a0 == 0)) = true then (if ((t520 == t525 && (t521 == t526 && (t522 == t527 && (t523 == t528)))) == (a0 == a1)) = true then (some (t520 != 2)) else (some false)) else (some false)))) = some r := by rw [if_pos rfl] at H; exact H
         clear H
         have H := H1
         clear H1
         by_cases c26 : ((!(t530 == t534) || (!(t531 == t535) || (!(t532 == t536) || (!(t533 == t537))))) = true)
         ·rw [if_pos c26] at H
          have c26b0 : (!(t530 == t534) || (!(t531 == t535) || (!(t532 == t536) || (!(t533 == t537))))) = true := c26
          clear c26
          exact absurd ((Option.some.inj H).trans HRT_.out) (by simp)
         ·rw [if_neg c26] at H
          have c26b0 : (!(t530 == t534) || (!(t531 == t535) || (!(t532 == t536) || (!(t533 == t537))))) = false := by simpa using c26
          clear c26
          replace H := Option.bind_eq_some_iff.mp H
          obtain ⟨t540, A270, H⟩ := H
          (try dsimp only at H)
          have A27 := Aside0.mk A270
          clear A270
          by_cases c28 : ((t540 == 0) == (a0 == 0)) = true
          ·rw [if_pos c28] at H
           have c28b0 : ((t540 == 0) == (a0 == 0)) = true := c28
           (try (have c28b1 : decide ((t540 == 0) = (a0 == 0)) = true := by simpa using c28))
           (try (have c28b2 : ((t540 == 0) == (a0 == 0)) = true := by simpa using c28))
           clear c28
           by_cases c29 : ((t520 == t525 && (t521 == t526 && (t522 == t527 && (t523 == t528)))) == (a0 == a1)) = true
           ·rw [if_pos c29] at H
            have c29b0 : ((t520 == t525 && (t521 == t526 && (t522 == t527 && (t523 == t528)))) == (a0 == a1)) = true := c29
            (try (have c29b1 : decide ((t520 == t525 && (t521 == t526 && (t522 == t527 && (t523 == t528)))) = (a0 == a1)) = true := by simpa using c29))
            (try (have c29b2 : ((t520 == t525 && (t521 == t526 && (t522 == t527 && (t523 == t528)))) == (a0 == a1)) = true := by simpa using c29))
            clear c29
            obtain rfl := Option.some.inj H
            have hnb30 := NB524_529.out
            have hnc30 := NB529_524.out
            obtain ⟨hcz31_0, hcz31_1, hcz31_2, hcz31_3, hfz31_0, hfz31_1, hfz31_2, hfz31_3⟩ := c4_ BK524
            go_wp2_with (first | (go_at_call 16; (with_reducible refine (num_Neg.calls t520 t521 t522 t523 t530 t531 t532 t533 _ A19.out).mono ?_); rintro e w32 ⟨rfl, hb⟩; replace BK524 := kq_ BK524 hb; replace BK529 := kq_ BK529 hb; replace HB := bq_ HB hb; (try clear hb); (try clear hb2); (try clear hk); (try clear hi)) | (go_at_call 15; (with_reducible refine (num_Of.calls kj15 (wrap64 (-a0)) t534 t535 t536 t537 _ A20.out).mono ?_); rintro e w33 ⟨rfl, hb⟩; replace BK524 := kq_ BK524 hb; replace BK529 := kq_ BK529 hb; replace HB := bq_ HB hb; (try clear hb); (try clear hb2); (try clear hk); (try clear hi); obtain ⟨hcz34_0, hcz34_1, hcz34_2, hcz34_3, hfz34_0, hfz34_1, hfz34_2, hfz34_3⟩ := c4_ BK524; obtain ⟨hcz35_0, hcz35_1, hcz35_2, hcz35_3, hfz35_0, hfz35_1, hfz35_2, hfz35_3⟩ := c4_ BK529) | (go_at_call 17; (with_reducible refine (num_Cmp.calls t520 t521 t522 t523 t525 t526 t527 t528 t538 _ A22.out).mono ?_); rintro e w36 ⟨rfl, hb⟩; replace BK524 := kq_ BK524 hb; replace BK529 := kq_ BK529 hb; replace HB := bq_ HB hb; (try clear hb); (try clear hb2); (try clear hk); (try clear hi); obtain ⟨hcz37_0, hcz37_1, hcz37_2, hcz37_3, hfz37_0, hfz37_1, hfz37_2, hfz37_3⟩ := c4_ BK524) | (go_at_call 14; (with_reducible refine (num_May.calls t520 t521 t522 t523 true _ A24.out).mono ?_); rintro e w38 ⟨rfl, hb⟩; replace BK524 := kq_ BK524 hb; replace BK529 := kq_ BK529 hb; replace HB := bq_ HB hb; (try clear hb); (try clear hb2); (try clear hk); (try clear hi); obtain ⟨hcz39_0, hcz39_1, hcz39_2, hcz39_3, hfz39_0, hfz39_1, hfz39_2, hfz39_3⟩ := c4_ BK524) | (go_at_call 18; (with_reducible refine (num_Sign.calls t520 t521 t522 t523 t540 _ A27.out).mono ?_); rintro e w40 ⟨rfl, hb⟩; replace BK524 := kq_ BK524 hb; replace BK529 := kq_ BK529 hb; replace HB := bq_ HB hb; (try clear hb); (try clear hb2); (try clear hk); (try clear hi); obtain ⟨hcz41_0, hcz41_1, hcz41_2, hcz41_3, hfz41_0, hfz41_1, hfz41_2, hfz41_3⟩ := c4_ BK524; obtain ⟨hcz42_0, hcz42_1, hcz42_2, hcz42_3, hfz42_0, hfz42_1, hfz42_2, hfz42_3⟩ := c4_ BK529))
            go_ret
            exact ⟨rf_, bw_ HB.out⟩
           ·rw [if_neg c29] at H
            have c29b0 : ((t520 == t525 && (t521 == t526 && (t522 == t527 && (t523 == t528)))) == (a0 == a1)) = false := by simpa using c29
            (try (have c29b1 : decide ((t520 == t525 && (t521 == t526 && (t522 == t527 && (t523 == t528)))) = (a0 == a1)) = false := by simpa using c29))
            (try (have c29b2 : ((t520 == t525 && (t521 == t526 && (t522 == t527 && (t523 == t528)))) == (a0 == a1)) = false := by simpa using c29))
            (try (have c29b3 : ¬ ((t520 == t525 && (t521 == t526 && (t522 == t527 && (t523 == t528)))) = (a0 == a1)) := by simpa using c29))
            clear c29
            exact absurd ((Option.some.inj H).trans HRT_.out) (by simp)
          ·rw [if_neg c28] at H
           have c28b0 : ((t540 == 0) == (a0 == 0)) = false := by simpa using c28
           (try (have c28b1 : decide ((t540 == 0) = (a0 == 0)) = false := by simpa using c28))
           (try (have c28b2 : ((t540 == 0) == (a0 == 0)) = false := by simpa using c28))
           (try (have c28b3 : ¬ ((t540 == 0) = (a0 == 0)) := by simpa using c28))
           clear c28
           exact absurd ((Option.some.inj H).trans HRT_.out) (by simp)
        ·replace c25 := Bool.eq_false_iff.mpr c25
         subst c25
         have H1 : (some false) = some r := by rw [if_neg (show ¬ (false = true) by decide)] at H; exact H
         clear H
         have H := H1
         clear H1
         exact absurd ((Option.some.inj H).trans HRT_.out) (by simp)
       ·rw [if_neg c23] at H
        have c23b0 : (t538 == x8_15) = false := beq_eq_false_iff_ne.mpr c23
        have c23b1 : (t538 != x8_15) = true := bne_iff_ne.mpr c23
        exact absurd ((Option.some.inj H).trans HRT_.out) (by simp)
      ·replace c21 := Bool.eq_false_iff.mpr c21
       subst c21
       have H1 : (some false) = some r := by rw [if_neg (show ¬ (false = true) by decide)] at H; exact H
       clear H
       have H := H1
       clear H1
       exact absurd ((Option.some.inj H).trans HRT_.out) (by simp)
     ·rw [if_neg c18] at H
      have c18b0 : decide ((-9223372036854775808) < a0) = false := decide_eq_false c18
      clear c18
      by_cases c43 : t519 = true
      ·subst c43
       have H1 : ((num_Cmp.f t520 t521 t522 t523 t525 t526 t527 t528).bind fun t541 => (if t541 = x8_15 then ((num_May.f t520 t521 t522 t523).bind fun t542 => (if t542 = true then ((num_Sign.f t520 t521 t522 t523).bind fun t543 => (if ((t543 == 0) == (a0 == 0)) = true then (if ((t520 == t525 && (t521 == t526 && (t522 == t527 && (t523 == t528)))) == (a0 == a1)) = true then (some (t520 != 2)) else (some false)) else (some false))) else (some false))) else (some false))) = some r := by rw [if_pos rfl] at H; exact H
       clear H
       have H := H1
       clear H1
       replace H := Option.bind_eq_some_iff.mp H
       obtain ⟨t541, A440, H⟩ := H
       (try dsimp only at H)
       have A44 := Aside0.mk A440
       clear A440
       by_cases c45 : t541 = x8_15
       ·rw [if_pos c45] at H
        have c45b0 : (t541 == x8_15) = true := beq_iff_eq.mpr c45
        have c45b1 : (t541 != x8_15) = false := bne_eq_false_iff_eq.mpr c45
        clear c45
        replace H := Option.bind_eq_some_iff.mp H
        obtain ⟨t542, A460, H⟩ := H
        (try dsimp only at H)
        have A46 := Aside0.mk A460
        clear A460
        by_cases c47 : t542 = true
        ·subst c47
         have H1 : ((num_Sign.f t520 t521 t522 t523).bind fun t543 => (if ((t543 == 0) == (a0 == 0)) = true then (if ((t520 == t525 && (t521 == t526 && (t522 == t527 && (t523 == t528)))) == (a0 == a1)) = true then (some (t520 != 2)) else (some false)) else (some false))) = some r := by rw [if_pos rfl] at H; exact H
         clear H
         have H := H1
         clear H1
         replace H := Option.bind_eq_some_iff.mp H
         obtain ⟨t543, A480, H⟩ := H
         (try dsimp only at H)
         have A48 := Aside0.mk A480
         clear A480
         by_cases c49 : ((t543 == 0) == (a0 == 0)) = true
         ·rw [if_pos c49] at H
          have c49b0 : ((t543 == 0) == (a0 == 0)) = true := c49
          (try (have c49b1 : decide ((t543 == 0) = (a0 == 0)) = true := by simpa using c49))
          (try (have c49b2 : ((t543 == 0) == (a0 == 0)) = true := by simpa using c49))
          clear c49
          by_cases c50 : ((t520 == t525 && (t521 == t526 && (t522 == t527 && (t523 == t528)))) == (a0 == a1)) = true
          ·rw [if_pos c50] at H
           have c50b0 : ((t520 == t525 && (t521 == t526 && (t522 == t527 && (t523 == t528)))) == (a0 == a1)) = true := c50
           (try (have c50b1 : decide ((t520 == t525 && (t521 == t526 && (t522 == t527 && (t523 == t528)))) = (a0 == a1)) = true := by simpa using c50))
           (try (have c50b2 : ((t520 == t525 && (t521 == t526 && (t522 == t527 && (t523 == t528)))) == (a0 == a1)) = true := by simpa using c50))
           clear c50
           obtain rfl := Option.some.inj H
           have hnb51 := NB524_529.out
           have hnc51 := NB529_524.out
           obtain ⟨hcz52_0, hcz52_1, hcz52_2, hcz52_3, hfz52_0, hfz52_1, hfz52_2, hfz52_3⟩ := c4_ BK524
           obtain ⟨hcz53_0, hcz53_1, hcz53_2, hcz53_3, hfz53_0, hfz53_1, hfz53_2, hfz53_3⟩ := c4_ BK529
           go_wp2_with (first | (go_at_call 17; (with_reducible refine (num_Cmp.calls t520 t521 t522 t523 t525 t526 t527 t528 t541 _ A44.out).mono ?_); rintro e w54 ⟨rfl, hb⟩; replace BK524 := kq_ BK524 hb; replace BK529 := kq_ BK529 hb; replace HB := bq_ HB hb; (try clear hb); (try clear hb2); (try clear hk); (try clear hi); obtain ⟨hcz55_0, hcz55_1, hcz55_2, hcz55_3, hfz55_0, hfz55_1, hfz55_2, hfz55_3⟩ := c4_ BK524) | (go_at_call 14; (with_reducible refine (num_May.calls t520 t521 t522 t523 true _ A46.out).mono ?_); rintro e w56 ⟨rfl, hb⟩; replace BK524 := kq_ BK524 hb; replace BK529 := kq_ BK529 hb; replace HB := bq_ HB hb; (try clear hb); (try clear hb2); (try clear hk); (try clear hi); obtain ⟨hcz57_0, hcz57_1, hcz57_2, hcz57_3, hfz57_0, hfz57_1, hfz57_2, hfz57_3⟩ := c4_ BK524) | (go_at_call 18; (with_reducible refine (num_Sign.calls t520 t521 t522 t523 t543 _ A48.out).mono ?_); rintro e w58 ⟨rfl, hb⟩; replace BK524 := kq_ BK524 hb; replace BK529 := kq_ BK529 hb; replace HB := bq_ HB hb; (try clear hb); (try clear hb2); (try clear hk); (try clear hi); obtain ⟨hcz59_0, hcz59_1, hcz59_2, hcz59_3, hfz59_0, hfz59_1, hfz59_2, hfz59_3⟩ := c4_ BK524; obtain ⟨hcz60_0, hcz60_1, hcz60_2, hcz60_3, hfz60_0, hfz60_1, hfz60_2, hfz60_3⟩ := c4_ BK529))
           go_ret
           exact ⟨rf_, bw_ HB.out⟩
          ·rw [if_neg c50] at H
           have c50b0 : ((t520 == t525 && (t521 == t526 && (t522 == t527 && (t523 == t528)))) == (a0 == a1)) = false := by simpa using c50
           (try (have c50b1 : decide ((t520 == t525 && (t521 == t526 && (t522 == t527 && (t523 == t528)))) = (a0 == a1)) = false := by simpa using c50))
           (try (have c50b2 : ((t520 == t525 && (t521 == t526 && (t522 == t527 && (t523 == t528)))) == (a0 == a1)) = false := by simpa using c50))
           (try (have c50b3 : ¬ ((t520 == t525 && (t521 == t526 && (t522 == t527 && (t523 == t528)))) = (a0 == a1)) := by simpa using c50))
           clear c50
           exact absurd ((Option.some.inj H).trans HRT_.out) (by simp)
         ·rw [if_neg c49] at H
          have c49b0 : ((t543 == 0) == (a0 == 0)) = false := by simpa using c49
          (try (have c49b1 : decide ((t543 == 0) = (a0 == 0)) = false := by simpa using c49))
          (try (have c49b2 : ((t543 == 0) == (a0 == 0)) = false := by simpa using c49))
          (try (have c49b3 : ¬ ((t543 == 0) = (a0 == 0)) := by simpa using c49))
          clear c49
          exact absurd ((Option.some.inj H).trans HRT_.out) (by simp)
        ·replace c47 := Bool.eq_false_iff.mpr c47
         subst c47
         have H1 : (some false) = some r := by rw [if_neg (show ¬ (false = true) by decide)] at H; exact H
         clear H
         have H := H1
         clear H1
         exact absurd ((Option.some.inj H).trans HRT_.out) (by simp)
       ·rw [if_neg c45] at H
        have c45b0 : (t541 == x8_15) = false := beq_eq_false_iff_ne.mpr c45
        have c45b1 : (t541 != x8_15) = true := bne_iff_ne.mpr c45
        exact absurd ((Option.some.inj H).trans HRT_.out) (by simp)
      ·replace c43 := Bool.eq_false_iff.mpr c43
       subst c43
       have H1 : (some false) = some r := by rw [if_neg (show ¬ (false = true) by decide)] at H; exact H
       clear H
       have H := H1
       clear H1
       exact absurd ((Option.some.inj H).trans HRT_.out) (by simp)


end Go.Proofs.YtkemnoejpbknhaaDoor.PA
