-- Laid by this work's own program; Lean checks it.
import Derived.Test.YtbejmpocgnldnaaPAx0
import Derived.Test.YtbejmpocgnldnaaPAx1
import Derived.Test.YtbejmpocgnldnaaPAx2
import Derived.Test.YtbejmpocgnldnaaPAx8
import Derived.Test.YtbejmpocgnldnaaPAx9
import Derived.Test.YtbejmpocgnldnaaPAx10
import Derived.Test.YtbejmpocgnldnaaPAx12
import Derived.Test.YtbejmpocgnldnaaPAx17
namespace Go.Proofs.Ytbejmpocgnldnaa.PA
open Go.RowKit Go.Proofs.YtbejmpocgnldnaaW.PrintWords Go.Proofs.YtbejmpocgnldnaaW.PrintLast Go.Proofs.YtbejmpocgnldnaaW.PrintMore
attribute [local go_sem] max2_int min2_int max_two min_two max_three min_three max_four min_four   -- for this text's walks alone
set_option linter.unusedVariables false
set_option linter.unusedSimpArgs false

attribute [local go_sem ↓ high] isSome_set_
/-! ### peloruslaw02_WholeMakes: function 4 -/
theorem peloruslaw02_WholeMakes.tab11 : rtab .any (opsOf Try.f4 11) = peloruslaw02_WholeMakes.T11 := by kernel_rfl
theorem peloruslaw02_WholeMakes.bits11 : waitsOk peloruslaw02_WholeMakes.T11.2 peloruslaw02_WholeMakes.B11 = true := by kernel_rfl
set_option maxHeartbeats 8000000 in
set_option maxRecDepth 100000 in
theorem peloruslaw02_WholeMakes.calls (k : Nat) (a0 : Bool) (A1 : Option Addr) (c1 : Nat) (l1 : List Int) (a2 : Int) (r : Bool) (w : World) (hr1 : Kd.C (Kd.int .u32) w A1 l1.length l1) (hc1 : l1.length ≤ c1) (hr_ : r = true) (haw_ : ∀ r, peloruslaw02_awake.f k = some r → r = true) (h : peloruslaw02_WholeMakes.f k a0 l1 a2 = some r) :
  Calls Try.prog 4 #[.bool a0, .slice A1 l1.length c1, .int .i64 a2] w fun e w' => e = .returned (.bool r) ∧ Below w.heap.size w w' := by
 have HRT_ := Aside0.mk hr_
 clear hr_
 have HAW_ := Aside0.mk haw_
 clear haw_
 have hu24 := Try.underlying24
 have HR1 := Aside0.mk hr1
 have HC1 := Aside0.mk hc1
 clear hr1 hc1
 have HB := Aside0.mk (Below.refl w.heap.size w)
 have H : ((peloruslaw02_awake.f k).bind fun t505 => (if t505 = true then (peloruslaw02_WholeMakes.j0 k a0 l1 a2 t505 (decide ((l1.length : Int) > 40))) else (peloruslaw02_WholeMakes.j0 k a0 l1 a2 t505 true))) = some r := h
 clear h
 replace H := Option.bind_eq_some_iff.mp H
 obtain ⟨t505, A40, H⟩ := H
 (try dsimp only at H)
 have A4 := Aside0.mk A40
 clear A40
 have HC5 := Aside0.mk H
 clear H
 go_enter Try.func4, Try.ntmps4
 go_upto_region 2 with (first | ((with_reducible refine gate_callee (f := 9) rfl ?_); refine gl_ (some 18) Try.func9 #[] ?_; (with_reducible refine (peloruslaw02_awake.calls k  t505 _ (HAW_.out _ A4.out) A4.out).mono ?_); rintro e w6 ⟨rfl, hb⟩; refine ⟨_, rfl, ?_⟩; replace HB := bq_ HB hb; (try clear hb); (try clear hb2); (try clear hk); (try clear hi)))
 (try simp only [Act.put, List.setIfInBounds_toArray, List.set_cons_zero, List.set_cons_succ])
 go_cut [25] (fun v25 wc => ∃ (kq : Nat) (x25_4 : Bool), v25 = .bool x25_4 ∧ Aside0 (peloruslaw02_WholeMakes.j0 kq a0 l1 a2 t505 x25_4 = some r) ∧ Aside0 (kq ≤ k) ∧ Aside0 (Below w.heap.size w wc))
 case first =>
  have H := HC5.out
  clear HC5
  by_cases c7 : t505 = true
  ·subst c7
   have H1 : (peloruslaw02_WholeMakes.j0 k a0 l1 a2 true (decide ((l1.length : Int) > 40))) = some r := by rw [if_pos rfl] at H; exact H
   clear H
   have H := H1
   clear H1
   have H' := Aside0.mk H
   clear H
   go_wp2
   go_meet
   case rel => exact ⟨_, (decide ((l1.length : Int) > 40)), (by first | rfl | (simp; done) | (simp [*]; done)), H', ⟨by first | omega | exact Nat.le_refl _⟩, ⟨bw_ HB.out⟩⟩
  ·replace c7 := Bool.eq_false_iff.mpr c7
   subst c7
   have H1 : (peloruslaw02_WholeMakes.j0 k a0 l1 a2 false true) = some r := by rw [if_neg (show ¬ (false = true) by decide)] at H; exact H
   clear H
   have H := H1
   clear H1
   have H' := Aside0.mk H
   clear H
   go_wp2
   go_meet
   case rel => exact ⟨_, (true), (by first | rfl | (simp; done) | (simp [*]; done)), H', ⟨by first | omega | exact Nat.le_refl _⟩, ⟨bw_ HB.out⟩⟩
 case rest =>
  clear HC5
  try clear c1
  try clear p2
  try clear c4
  try clear c7
  obtain ⟨kq, x25_4, rfl, HA, HJ4, HB⟩ := hcut
  cases kq with
  | zero => exact absurd HA.out (by simp [peloruslaw02_WholeMakes.j0])
  | succ kj4 =>
   have H := HA.out
   clear HA
   simp only [peloruslaw02_WholeMakes.j0] at H
   by_cases c8 : x25_4 = true
   ·subst c8
    have H1 : (some t505) = some r := by rw [if_pos rfl] at H; exact H
    clear H
    have H := H1
    clear H1
    obtain rfl := Option.some.inj H
    go_wp2
    go_ret
    exact ⟨rf_, bw_ HB.out⟩
   ·replace c8 := Bool.eq_false_iff.mpr c8
    subst c8
    have H1 : ((whole_Make.f kj4 a0 l1).bind fun bt506 => ((whole_Int.f kj4 a0 l1).bind fun bt512 => ((pelorusref02_Int.f kj4 a0 l1).bind fun bt514 => ((whole_From.f kj4 a2).bind fun bt516 => ((whole_Int.f kj4 bt516.1 bt516.2).bind fun bt520 => ((pelorusref02_Make.f kj4 a0 l1).bind fun bt522 => ((pelorusref02_Alike.f kj4 bt506.1 bt506.2 bt522.1 bt522.2).bind fun t526 => ((whole_From.f kj4 a2).bind fun bt527 => ((pelorusref02_From.f kj4 a2).bind fun bt531 => ((pelorusref02_Alike.f kj4 bt527.1 bt527.2 bt531.1 bt531.2).bind fun t535 => (if t526 = true then (if t535 = true then (if bt512.1 = bt514.1 then (if (bt512.2 == bt514.2) = true then (if bt520.2 = true then (if bt520.1 = a2 then ((whole_May.f bt506.1 bt506.2).bind fun t536 => (if t536 = true then ((whole_May.f a0 l1).bind fun t537 => ((pelorusref02_May.f a0 l1).bind fun t538 => (some (t537 == t538)))) else (some false))) else (some false)) else (some false)) else (some false)) else (some false)) else (some false)) else (some false)))))))))))) = some r := by rw [if_neg (show ¬ (false = true) by decide)] at H; exact H
    clear H
    have H := H1
    clear H1
    replace H := Option.bind_eq_some_iff.mp H
    obtain ⟨⟨t506, t507⟩, A90, H⟩ := H
    (try dsimp only at H)
    have A9 := Aside0.mk A90
    clear A90
    replace H := Option.bind_eq_some_iff.mp H
    obtain ⟨⟨t512, t513⟩, A100, H⟩ := H
    (try dsimp only at H)
    have A10 := Aside0.mk A100
    clear A100
    replace H := Option.bind_eq_some_iff.mp H
    obtain ⟨⟨t514, t515⟩, A110, H⟩ := H
    (try dsimp only at H)
    have A11 := Aside0.mk A110
    clear A110
    replace H := Option.bind_eq_some_iff.mp H
    obtain ⟨⟨t516, t517⟩, A120, H⟩ := H
    (try dsimp only at H)
    have A12 := Aside0.mk A120
    clear A120
    replace H := Option.bind_eq_some_iff.mp H
    obtain ⟨⟨t520, t521⟩, A130, H⟩ := H
    (try dsimp only at H)
    have A13 := Aside0.mk A130
    clear A130
    replace H := Option.bind_eq_some_iff.mp H
    obtain ⟨⟨t522, t523⟩, A140, H⟩ := H
    (try dsimp only at H)
    have A14 := Aside0.mk A140
    clear A140
    replace H := Option.bind_eq_some_iff.mp H
    obtain ⟨t526, A150, H⟩ := H
    (try dsimp only at H)
    have A15 := Aside0.mk A150
    clear A150
    replace H := Option.bind_eq_some_iff.mp H
    obtain ⟨⟨t527, t528⟩, A160, H⟩ := H
    (try dsimp only at H)
    have A16 := Aside0.mk A160
    clear A160
    replace H := Option.bind_eq_some_iff.mp H
    obtain ⟨⟨t531, t532⟩, A170, H⟩ := H
    (try dsimp only at H)
    have A17 := Aside0.mk A170
    clear A170
    replace H := Option.bind_eq_some_iff.mp H
    obtain ⟨t535, A180, H⟩ := H
    (try dsimp only at H)
    have A18 := Aside0.mk A180
    clear A180
    by_cases c19 : t526 = true
    ·subst c19
     have H1 : (if t535 = true then (if t512 = t514 then (if (t513 == t515) = true then (if t521 = true then (if t520 = a2 then ((whole_May.f t506 t507).bind fun t536 => (if t536 = true then ((whole_May.f a0 l1).bind fun t537 => ((pelorusref02_May.f a0 l1).bind fun t538 => (some (t537 == t538)))) else (some false))) else (some false)) else (some false)) else (some false)) else (some false)) else (some false)) = some r := by rw [if_pos rfl] at H; exact H
     clear H
     have H := H1
     clear H1
     by_cases c20 : t535 = true
     ·subst c20
      have H1 : (if t512 = t514 then (if (t513 == t515) = true then (if t521 = true then (if t520 = a2 then ((whole_May.f t506 t507).bind fun t536 => (if t536 = true then ((whole_May.f a0 l1).bind fun t537 => ((pelorusref02_May.f a0 l1).bind fun t538 => (some (t537 == t538)))) else (some false))) else (some false)) else (some false)) else (some false)) else (some false)) = some r := by rw [if_pos rfl] at H; exact H
      clear H
      have H := H1
      clear H1
      by_cases c21 : t512 = t514
      ·rw [if_pos c21] at H
       have c21b0 : (t512 == t514) = true := beq_iff_eq.mpr c21
       have c21b1 : (t512 != t514) = false := bne_eq_false_iff_eq.mpr c21
       clear c21
       by_cases c22 : (t513 == t515) = true
       ·rw [if_pos c22] at H
        have c22b0 : (t513 == t515) = true := c22
        (try (have c22b1 : decide (t513 = t515) = true := by simpa using c22))
        (try (have c22b2 : (t513 == t515) = true := by simpa using c22))
        clear c22
        by_cases c23 : t521 = true
        ·subst c23
         have H1 : (if t520 = a2 then ((whole_May.f t506 t507).bind fun t536 => (if t536 = true then ((whole_May.f a0 l1).bind fun t537 => ((pelorusref02_May.f a0 l1).bind fun t538 => (some (t537 == t538)))) else (some false))) else (some false)) = some r := by rw [if_pos rfl] at H; exact H
         clear H
         have H := H1
         clear H1
         by_cases c24 : t520 = a2
         ·rw [if_pos c24] at H
          have c24b0 : (t520 == a2) = true := beq_iff_eq.mpr c24
          have c24b1 : (t520 != a2) = false := bne_eq_false_iff_eq.mpr c24
          clear c24
          replace H := Option.bind_eq_some_iff.mp H
          obtain ⟨t536, A250, H⟩ := H
          (try dsimp only at H)
          have A25 := Aside0.mk A250
          clear A250
          by_cases c26 : t536 = true
          ·subst c26
           have H1 : ((whole_May.f a0 l1).bind fun t537 => ((pelorusref02_May.f a0 l1).bind fun t538 => (some (t537 == t538)))) = some r := by rw [if_pos rfl] at H; exact H
           clear H
           have H := H1
           clear H1
           replace H := Option.bind_eq_some_iff.mp H
           obtain ⟨t537, A270, H⟩ := H
           (try dsimp only at H)
           have A27 := Aside0.mk A270
           clear A270
           replace H := Option.bind_eq_some_iff.mp H
           obtain ⟨t538, A280, H⟩ := H
           (try dsimp only at H)
           have A28 := Aside0.mk A280
           clear A280
           obtain rfl := Option.some.inj H
           try go_wp2_with (first | ((with_reducible refine gate_callee (f := 16) rfl ?_); refine gl_ (some 29) Try.func16 #[.bool a0, .slice A1 l1.length c1] ?_; (with_reducible refine (whole_Make.calls kj4 a0 _ _ l1 t506 t507 _ ?side1 ?side2 A9.out).mono ?_); (case side1 => repeat (first | exact (Kd.C_below HR1.out HB.out) | (with_reducible refine Kd.C_alloc ?_ _) | (with_reducible refine Kd.C_drewN ?_ _) | (with_reducible refine Kd.C_drew ?_))); (case side2 => exact HC1.out); rintro e w29 ⟨v508, rfl, ho0, hb⟩; refine ⟨_, rfl, ?_⟩; have HO509 := Aside0.mk (Kd.R_lower ho0 (below_size (bw_ HB.out))); replace HB := bq_ HB hb; (try clear hb); (try clear hb2); (try clear hk); (try clear hi); (try clear ho0)) | ((with_reducible refine gate_dst (N := 8) rfl ?_); (try (refine gate_guard (by rfl) ?_; dsimp only)); refine bx_ 8 #[.bool false, .slice none 0 0] 24 ?_; intro gb510 hg w30 hbox hb; have BK510 := Aside0.mk (hbox); have GW510 := ge_ hg HB; have GE510 := ge_ hg HB; replace HO509 := Aside0.mk (Kd.R_below (kr_ HO509.out) hb); replace HB := bq_ HB hb; clear hb hbox hg; obtain ⟨hcz31_0, hcz31_1, hfz31_0, hfz31_1⟩ := c2_ BK510; obtain ⟨Ao32, co32, eo32⟩ := Kd.R_slice HO509.out; subst eo32) | ((with_reducible refine gate_dst (N := 9) rfl ?_); (try (refine gate_guard (by rfl) ?_; dsimp only)); refine bx_ 9 #[.bool false, .slice none 0 0] 24 ?_; intro gb511 hg w33 hbox hb; have n0_ := Aside0.mk (Kd.R_below (kr_ ((Kd.R_mono (Kd.R_far (p := ⟨gb510, 1, none⟩) (Kd.R_far (p := ⟨gb510, 0, none⟩) (Kd.R_types HO509.out BK510.out (by decide)) (fun _ hk => hk.2) (.bool t506)) (fun _ hk => hk.2) (.slice Ao32 t507.length co32)) (fun _ h_ => h_.1)))) hb); have n1_ := Aside0.mk (blk_below (g := gb510) (o := .cells #[.bool t506, .slice Ao32 t507.length co32] 24 (0, 0)) (by refine kb_ ?_; refine bp_ #[.bool t506, .slice none 0 0] 1 ?_; refine bp_ #[.bool false, .slice none 0 0] 0 ?_; exact BK510.out) hb); have n2_ := bq_ HB hb; have n3_ := Aside0.mk (hbox); have n4_ := ge_ hg HB; have n5_ := ge_ hg HB; have n6_ := Aside0.mk ((by rw [hg]; exact Nat.ne_of_lt (blk_lt (g := gb510) (o := .cells #[.bool t506, .slice Ao32 t507.length co32] 24 (0, 0)) (by refine kb_ ?_; refine bp_ #[.bool t506, .slice none 0 0] 1 ?_; refine bp_ #[.bool false, .slice none 0 0] 0 ?_; exact BK510.out)) : gb510 ≠ gb511)); have n7_ := Aside0.mk ((by rw [hg]; exact Nat.ne_of_gt (blk_lt (g := gb510) (o := .cells #[.bool t506, .slice Ao32 t507.length co32] 24 (0, 0)) (by refine kb_ ?_; refine bp_ #[.bool t506, .slice none 0 0] 1 ?_; refine bp_ #[.bool false, .slice none 0 0] 0 ?_; exact BK510.out)) : gb511 ≠ gb510)); clear HO509; clear BK510; clear HB; have HO509 := n0_; have BK510 := n1_; have HB := n2_; have BK511 := n3_; have GW511 := n4_; have GE511 := n5_; have NB510_511 := n6_; have NB511_510 := n7_; clear n0_ n1_ n2_ n3_ n4_ n5_ n6_ n7_; clear hb hbox hg; have hnb34 := NB511_510.out; have hnc34 := NB510_511.out; obtain ⟨hcz35_0, hcz35_1, hfz35_0, hfz35_1⟩ := c2_ BK511) | ((with_reducible refine gate_callee (f := 17) rfl ?_); refine gl_ (some 35) Try.func17 #[.agg #[.bool a0, .slice A1 l1.length c1]] ?_; (with_reducible refine (whole_Int.calls kj4 a0 _ _ l1 t512 t513 _ ?side1 ?side2 A10.out).mono ?_); (case side1 => exact Kd.C_below HR1.out (bw_ HB.out)); (case side2 => exact HC1.out); rintro e w36 ⟨rfl, hb⟩; refine ⟨_, rfl, ?_⟩; have n0_ := Aside0.mk (Kd.R_below (kr_ ((Kd.R_mono (Kd.R_far (p := ⟨gb511, 1, none⟩) (Kd.R_far (p := ⟨gb511, 0, none⟩) (Kd.R_types HO509.out BK511.out (by decide)) (fun _ hk => hk.2) (.bool a0)) (fun _ hk => hk.2) (.slice A1 l1.length c1)) (fun _ h_ => h_.1)))) hb); have n1_ := Aside0.mk (blk_below (g := gb510) (o := .cells #[.bool t506, .slice Ao32 t507.length co32] 24 (0, 0)) (by refine kb_ ?_; refine bf_ NB510_511 ?_; refine bf_ NB510_511 ?_; exact BK510.out) hb); have n2_ := Aside0.mk (blk_below (g := gb511) (o := .cells #[.bool a0, .slice A1 l1.length c1] 24 (0, 0)) (by refine kb_ ?_; refine bp_ #[.bool a0, .slice none 0 0] 1 ?_; refine bp_ #[.bool false, .slice none 0 0] 0 ?_; exact BK511.out) hb); have n3_ := bq_ HB hb; clear HO509; clear BK510; clear BK511; clear HB; have HO509 := n0_; have BK510 := n1_; have BK511 := n2_; have HB := n3_; clear n0_ n1_ n2_ n3_; (try clear hb); (try clear hb2); (try clear hk); (try clear hi); obtain ⟨hcz37_0, hcz37_1, hfz37_0, hfz37_1⟩ := c2_ BK511) | ((with_reducible refine gate_callee (f := 18) rfl ?_); refine gl_ (some 40) Try.func18 #[.agg #[.bool a0, .slice A1 l1.length c1]] ?_; (with_reducible refine (pelorusref02_Int.calls kj4 a0 _ _ l1 t514 t515 _ ?side1 ?side2 A11.out).mono ?_); (case side1 => repeat (first | exact (Kd.C_below HR1.out HB.out) | (with_reducible refine Kd.C_alloc ?_ _) | (with_reducible refine Kd.C_drewN ?_ _) | (with_reducible refine Kd.C_drew ?_))); (case side2 => exact HC1.out); rintro e w38 ⟨rfl, hb⟩; refine ⟨_, rfl, ?_⟩; replace HO509 := Aside0.mk (Kd.R_below (kr_ HO509.out) hb); replace BK510 := kq_ BK510 hb; replace BK511 := kq_ BK511 hb; replace HB := bq_ HB hb; (try clear hb); (try clear hb2); (try clear hk); (try clear hi)) | ((with_reducible refine gate_callee (f := 19) rfl ?_); refine gl_ (some 45) Try.func19 #[.int .i64 a2] ?_; (with_reducible refine (whole_From.calls kj4 a2 t516 t517 _ A12.out).mono ?_); rintro e w39 ⟨v518, rfl, ho0, hb⟩; refine ⟨_, rfl, ?_⟩; have HO519 := Aside0.mk (Kd.R_lower (Kd.R_new' ho0 (Kd.R_lt (kr_ HO509.out))) (below_size (bw_ HB.out))); replace HO509 := Aside0.mk (Kd.R_elder' (kr_ HO509.out) (Kd.R_base ho0) hb); replace BK510 := kq_ BK510 hb; replace BK511 := kq_ BK511 hb; replace HB := bq_ HB hb; (try clear hb); (try clear hb2); (try clear hk); (try clear hi); (try clear ho0); obtain ⟨Ao40, co40, eo40⟩ := Kd.R_slice HO519.out; subst eo40) | ((with_reducible refine gate_callee (f := 17) rfl ?_); refine gl_ (some 46) Try.func17 #[.agg #[.bool t516, .slice Ao40 t517.length co40]] ?_; (with_reducible refine (whole_Int.calls kj4 t516 _ _ t517 t520 true _ ?side1 ?side2 A13.out).mono ?_); (case side1 => repeat (first | exact (Kd.R_reads' HO519.out).2.2 | (with_reducible refine Kd.C_alloc ?_ _) | (with_reducible refine Kd.C_drewN ?_ _) | (with_reducible refine Kd.C_drew ?_))); (case side2 => exact (Kd.R_reads' HO519.out).2.1); rintro e w41 ⟨rfl, hb⟩; refine ⟨_, rfl, ?_⟩; replace HO509 := Aside0.mk (Kd.R_below (kr_ HO509.out) hb); replace HO519 := Aside0.mk (Kd.R_below (kr_ HO519.out) hb); replace BK510 := kq_ BK510 hb; replace BK511 := kq_ BK511 hb; replace HB := bq_ HB hb; (try clear hb); (try clear hb2); (try clear hk); (try clear hi)))
           replace HO509 := Aside0.mk (Kd.R_drew HO509.out)
           replace HO519 := Aside0.mk (Kd.R_drew HO519.out)
           replace BK510 := Aside0.mk (blk_drew BK510.out)
           replace BK511 := Aside0.mk (blk_drew BK511.out)
           replace HB := Aside0.mk (below_drew1 HB.out)
           refine start_ (n := 6) (S := fun w' => w'.cell? ⟨gb510, 0, none⟩ = some (.bool t506) ∧ w'.cell? ⟨gb510, 1, none⟩ = some (.slice Ao32 t507.length co32)) (ds := []) #[false, false, false, false, false, false] (by kernel_rfl) rfl rfl ⟨(blk_cell BK510.out 0).trans rfl, (blk_cell BK510.out 1).trans rfl⟩ (fun hHeld => ?_)
           generalize w41.drew = w42 at HO509 HO519 BK510 BK511 HB hHeld ⊢
           refine pure_ (i := 1) (N := some 50) (v := ?_) (a' := ?_) #[false, true, false, false, false, false] rfl rfl (by kernel_rfl) (fun _ _ _ h => h) (Or.inl ⟨by rfl, ?_⟩) ?_ ?_
           rotate_left
           ·intro w'
            go_simp
            with_reducible rfl
           rotate_left
           ·exact pt_
           refine pure_ (i := 2) (N := some 51) (v := ?_) (a' := ?_) #[false, true, true, false, false, false] rfl rfl (by kernel_rfl) (fun _ _ _ h => h) (Or.inl ⟨by rfl, ?_⟩) ?_ ?_
           rotate_left
           ·intro w'
            go_simp
            with_reducible rfl
           rotate_left
           ·exact pt_
           refine take_ (i := 0) (N := some 49) (v := ?_) (a' := ?_) #[true, true, true, false, false, false] rfl rfl (by kernel_rfl) (fun _ _ _ h => h) (Or.inl ⟨by rfl, ?_⟩) hHeld ?_ ?_
           rotate_left
           ·rintro w' ⟨s0, s1⟩
            go_simp
            with_reducible rfl
           rotate_left
           ·exact pt_
           refine one_ (i := 3) (N := some 52) #[true, true, true, true, false, false] rfl rfl (by kernel_rfl) (by decide) (fun K hK => ?_)
           refine gs_ Try.func20 #[.bool a0, .slice A1 l1.length c1] ?_
           with_reducible refine (pelorusref02_Make.calls kj4 a0 _ _ l1 t522 t523 _ ?side1 ?side2 A14.out).mono ?_
           (case side1 => repeat (first | exact (Kd.C_below HR1.out HB.out) | (with_reducible refine Kd.C_alloc ?_ _) | (with_reducible refine Kd.C_drewN ?_ _) | (with_reducible refine Kd.C_drew ?_)))
           (case side2 => exact HC1.out)
           rintro e w43 ⟨v524, rfl, ho0, hb⟩
           refine ⟨_, rfl, ?_⟩
           have HO525 := Aside0.mk (Kd.R_lower (Kd.R_new' (Kd.R_new' ho0 (Kd.R_lt (kr_ HO509.out))) (Kd.R_lt (kr_ HO519.out))) (below_size (bw_ HB.out)))
           replace HO509 := Aside0.mk (Kd.R_elder' (kr_ HO509.out) (Kd.R_base ho0) hb)
           replace HO519 := Aside0.mk (Kd.R_elder' (kr_ HO519.out) (Kd.R_base ho0) hb)
           replace BK510 := kq_ BK510 hb
           replace BK511 := kq_ BK511 hb
           replace HB := bq_ HB hb
           (try clear hb)
           (try clear hb2)
           (try clear hk)
           (try clear hi)
           (try clear ho0)
           obtain ⟨Ao44, co44, eo44⟩ := Kd.R_slice HO525.out
           (first | subst eo44 | (injection eo44 with f1_ f2_ f3_; have f4_ := f1_.symm; have f5_ := f3_.symm; clear f1_ f2_ f3_; subst f4_; subst f5_))
           refine hK.out _ _ ⟨(blk_cell BK510.out 0).trans rfl, (blk_cell BK510.out 1).trans rfl⟩ (fun hHeld => ?_)
           clear hK K
           refine norm_ (a' := ?_) ?_ ?_
           rotate_left
           ·show Act.put _ (some 52) _ = _
            exact pt_
           refine one_ (i := 4) (N := some 53) #[true, true, true, true, true, false] rfl rfl (by kernel_rfl) (by decide) (fun K hK => ?_)
           refine gs_ Try.func13 #[.agg #[.bool t506, .slice Ao32 t507.length co32], .agg #[.bool t522, .slice Ao44 t523.length co44]] ?_
           with_reducible refine (pelorusref02_Alike.calls kj4 t506 _ _ t507 t522 _ _ t523 true _ ?side1 ?side2 ?side3 ?side4 A15.out).mono ?_
           (case side1 => repeat (first | exact (Kd.R_reads' HO509.out).2.2 | (with_reducible refine Kd.C_alloc ?_ _) | (with_reducible refine Kd.C_drewN ?_ _) | (with_reducible refine Kd.C_drew ?_)))
           (case side2 => exact (Kd.R_reads' HO509.out).2.1)
           (case side3 => repeat (first | exact (Kd.R_reads' HO525.out).2.2 | (with_reducible refine Kd.C_alloc ?_ _) | (with_reducible refine Kd.C_drewN ?_ _) | (with_reducible refine Kd.C_drew ?_)))
           (case side4 => exact (Kd.R_reads' HO525.out).2.1)
           rintro e w45 ⟨rfl, hb⟩
           refine ⟨_, rfl, ?_⟩
           replace HO509 := Aside0.mk (Kd.R_below (kr_ HO509.out) hb)
           replace HO519 := Aside0.mk (Kd.R_below (kr_ HO519.out) hb)
           replace HO525 := Aside0.mk (Kd.R_below (kr_ HO525.out) hb)
           replace BK510 := kq_ BK510 hb
           replace BK511 := kq_ BK511 hb
           replace HB := bq_ HB hb
           (try clear hb)
           (try clear hb2)
           (try clear hk)
           (try clear hi)
           refine hK.out _ _ ⟨(blk_cell BK510.out 0).trans rfl, (blk_cell BK510.out 1).trans rfl⟩ (fun hHeld => ?_)
           clear hK K
           refine norm_ (a' := ?_) ?_ ?_
           rotate_left
           ·show Act.put _ (some 53) _ = _
            exact pt_
           refine pure_ (i := 5) (N := some 16) (v := ?_) (a' := ?_) #[true, true, true, true, true, true] rfl rfl (by kernel_rfl) (fun _ _ _ h => h) (Or.inl ⟨by rfl, ?_⟩) ?_ ?_
           rotate_left
           ·intro w'
            go_simp
            with_reducible rfl
           rotate_left
           ·exact pt_
           refine done_ (by kernel_rfl) ?_
           try go_wp2_with (first | ((with_reducible refine gate_callee (f := 19) rfl ?_); refine gl_ (some 55) Try.func19 #[.int .i64 a2] ?_; (with_reducible refine (whole_From.calls kj4 a2 t527 t528 _ A16.out).mono ?_); rintro e w46 ⟨v529, rfl, ho0, hb⟩; refine ⟨_, rfl, ?_⟩; have HO530 := Aside0.mk (Kd.R_lower (Kd.R_new' (Kd.R_new' (Kd.R_new' ho0 (Kd.R_lt (kr_ HO509.out))) (Kd.R_lt (kr_ HO519.out))) (Kd.R_lt (kr_ HO525.out))) (below_size (bw_ HB.out))); replace HO509 := Aside0.mk (Kd.R_elder' (kr_ HO509.out) (Kd.R_base ho0) hb); replace HO519 := Aside0.mk (Kd.R_elder' (kr_ HO519.out) (Kd.R_base ho0) hb); replace HO525 := Aside0.mk (Kd.R_elder' (kr_ HO525.out) (Kd.R_base ho0) hb); replace BK510 := kq_ BK510 hb; replace BK511 := kq_ BK511 hb; replace HB := bq_ HB hb; (try clear hb); (try clear hb2); (try clear hk); (try clear hi); (try clear ho0)) | ((with_reducible refine gate_callee (f := 21) rfl ?_); refine gl_ (some 57) Try.func21 #[.int .i64 a2] ?_; (with_reducible refine (pelorusref02_From.calls kj4 a2 t531 t532 _ A17.out).mono ?_); rintro e w47 ⟨v533, rfl, ho0, hb⟩; refine ⟨_, rfl, ?_⟩; have HO534 := Aside0.mk (Kd.R_lower (Kd.R_new' (Kd.R_new' (Kd.R_new' (Kd.R_new' ho0 (Kd.R_lt (kr_ HO509.out))) (Kd.R_lt (kr_ HO519.out))) (Kd.R_lt (kr_ HO525.out))) (Kd.R_lt (kr_ HO530.out))) (below_size (bw_ HB.out))); replace HO509 := Aside0.mk (Kd.R_elder' (kr_ HO509.out) (Kd.R_base ho0) hb); replace HO519 := Aside0.mk (Kd.R_elder' (kr_ HO519.out) (Kd.R_base ho0) hb); replace HO525 := Aside0.mk (Kd.R_elder' (kr_ HO525.out) (Kd.R_base ho0) hb); replace HO530 := Aside0.mk (Kd.R_elder' (kr_ HO530.out) (Kd.R_base ho0) hb); replace BK510 := kq_ BK510 hb; replace BK511 := kq_ BK511 hb; replace HB := bq_ HB hb; (try clear hb); (try clear hb2); (try clear hk); (try clear hi); (try clear ho0); obtain ⟨Ao48, co48, eo48⟩ := Kd.R_slice HO530.out; subst eo48; obtain ⟨Ao49, co49, eo49⟩ := Kd.R_slice HO534.out; subst eo49) | ((with_reducible refine gate_callee (f := 13) rfl ?_); refine gl_ (some 58) Try.func13 #[.agg #[.bool t527, .slice Ao48 t528.length co48], .agg #[.bool t531, .slice Ao49 t532.length co49]] ?_; (with_reducible refine (pelorusref02_Alike.calls kj4 t527 _ _ t528 t531 _ _ t532 true _ ?side1 ?side2 ?side3 ?side4 A18.out).mono ?_); (case side1 => repeat (first | exact (Kd.R_reads' HO530.out).2.2 | (with_reducible refine Kd.C_alloc ?_ _) | (with_reducible refine Kd.C_drewN ?_ _) | (with_reducible refine Kd.C_drew ?_))); (case side2 => exact (Kd.R_reads' HO530.out).2.1); (case side3 => repeat (first | exact (Kd.R_reads' HO534.out).2.2 | (with_reducible refine Kd.C_alloc ?_ _) | (with_reducible refine Kd.C_drewN ?_ _) | (with_reducible refine Kd.C_drew ?_))); (case side4 => exact (Kd.R_reads' HO534.out).2.1); rintro e w50 ⟨rfl, hb⟩; refine ⟨_, rfl, ?_⟩; replace HO509 := Aside0.mk (Kd.R_below (kr_ HO509.out) hb); replace HO519 := Aside0.mk (Kd.R_below (kr_ HO519.out) hb); replace HO525 := Aside0.mk (Kd.R_below (kr_ HO525.out) hb); replace HO530 := Aside0.mk (Kd.R_below (kr_ HO530.out) hb); replace HO534 := Aside0.mk (Kd.R_below (kr_ HO534.out) hb); replace BK510 := kq_ BK510 hb; replace BK511 := kq_ BK511 hb; replace HB := bq_ HB hb; (try clear hb); (try clear hb2); (try clear hk); (try clear hi)))
           replace HO509 := Aside0.mk (Kd.R_drew HO509.out)
           replace HO519 := Aside0.mk (Kd.R_drew HO519.out)
           replace HO525 := Aside0.mk (Kd.R_drew HO525.out)
           replace HO530 := Aside0.mk (Kd.R_drew HO530.out)
           replace HO534 := Aside0.mk (Kd.R_drew HO534.out)
           replace BK510 := Aside0.mk (blk_drew BK510.out)
           replace BK511 := Aside0.mk (blk_drew BK511.out)
           replace HB := Aside0.mk (below_drew1 HB.out)
           refine start_ (n := 34) (S := fun w' => w'.cell? ⟨gb510, 0, none⟩ = some (.bool t506) ∧ w'.cell? ⟨gb510, 1, none⟩ = some (.slice Ao32 t507.length co32) ∧ w'.cell? ⟨gb511, 0, none⟩ = some (.bool a0) ∧ w'.cell? ⟨gb511, 1, none⟩ = some (.slice A1 l1.length c1)) (ds := []) #[false, false, false, false, false, false, false, false, false, false, false, false, false, false, false, false, false, false, false, false, false, false, false, false, false, false, false, false, false, false, false, false, false, false] (by kernel_rfl) rfl rfl ⟨(blk_cell BK510.out 0).trans rfl, (blk_cell BK510.out 1).trans rfl, (blk_cell BK511.out 0).trans rfl, (blk_cell BK511.out 1).trans rfl⟩ (fun hHeld => ?_); refine with_tabW peloruslaw02_WholeMakes.tab11 peloruslaw02_WholeMakes.bits11 (fun HT_ HW_ => ?_)
           generalize w50.drew = w51 at HO509 HO519 HO525 HO530 HO534 BK510 BK511 HB hHeld ⊢
           refine pure_ (i := 0) (N := some 59) (v := ?_) (a' := ?_) #[true, false, false, false, false, false, false, false, false, false, false, false, false, false, false, false, false, false, false, false, false, false, false, false, false, false, false, false, false, false, false, false, false, false] rfl rfl (any_of HT_.out (by kernel_rfl)) (fun _ _ _ h => h) (Or.inl ⟨by rfl, ?_⟩) ?_ ?_
           rotate_left
           ·intro w'
            go_simp
            with_reducible rfl
           rotate_left
           ·exact pt_
           refine pure_ (i := 1) (N := some 60) (v := ?_) (a' := ?_) #[true, true, false, false, false, false, false, false, false, false, false, false, false, false, false, false, false, false, false, false, false, false, false, false, false, false, false, false, false, false, false, false, false, false] rfl rfl (any_of HT_.out (by kernel_rfl)) (fun _ _ _ h => h) (Or.inl ⟨by rfl, ?_⟩) ?_ ?_
           rotate_left
           ·intro w'
            go_simp
            with_reducible rfl
           rotate_left
           ·exact pt_
           refine pure_ (i := 2) (N := some 61) (v := ?_) (a' := ?_) #[true, true, true, false, false, false, false, false, false, false, false, false, false, false, false, false, false, false, false, false, false, false, false, false, false, false, false, false, false, false, false, false, false, false] rfl rfl (any_of HT_.out (by kernel_rfl)) (fun _ _ _ h => h) (Or.inl ⟨by rfl, ?_⟩) ?_ ?_
           rotate_left
           ·intro w'
            go_simp
            with_reducible rfl
           rotate_left
           ·exact pt_
           refine pure_ (i := 3) (N := some 62) (v := ?_) (a' := ?_) #[true, true, true, true, false, false, false, false, false, false, false, false, false, false, false, false, false, false, false, false, false, false, false, false, false, false, false, false, false, false, false, false, false, false] rfl rfl (any_of HT_.out (by kernel_rfl)) (fun _ _ _ h => h) (Or.inl ⟨by rfl, ?_⟩) ?_ ?_
           rotate_left
           ·intro w'
            go_simp
            with_reducible rfl
           rotate_left
           ·exact pt_
           refine pure_ (i := 4) (N := some 63) (v := ?_) (a' := ?_) #[true, true, true, true, true, false, false, false, false, false, false, false, false, false, false, false, false, false, false, false, false, false, false, false, false, false, false, false, false, false, false, false, false, false] rfl rfl (any_of HT_.out (by kernel_rfl)) (fun _ _ _ h => h) (Or.inl ⟨by rfl, ?_⟩) ?_ ?_
           rotate_left
           ·intro w'
            go_simp
            with_reducible rfl
           rotate_left
           ·exact pt_
           refine pure_ (i := 5) (N := some 64) (v := ?_) (a' := ?_) #[true, true, true, true, true, true, false, false, false, false, false, false, false, false, false, false, false, false, false, false, false, false, false, false, false, false, false, false, false, false, false, false, false, false] rfl rfl (any_of HT_.out (by kernel_rfl)) (fun _ _ _ h => h) (Or.inl ⟨by rfl, ?_⟩) ?_ ?_
           rotate_left
           ·intro w'
            go_simp
            with_reducible rfl
           rotate_left
           ·exact pt_
           refine pure_ (i := 6) (N := some 65) (v := ?_) (a' := ?_) #[true, true, true, true, true, true, true, false, false, false, false, false, false, false, false, false, false, false, false, false, false, false, false, false, false, false, false, false, false, false, false, false, false, false] rfl rfl (any_of HT_.out (by kernel_rfl)) (fun _ _ _ h => h) (Or.inl ⟨by rfl, ?_⟩) ?_ ?_
           rotate_left
           ·intro w'
            go_simp
            with_reducible rfl
           rotate_left
           ·exact pt_
           refine pure_ (i := 7) (N := some 66) (v := ?_) (a' := ?_) #[true, true, true, true, true, true, true, true, false, false, false, false, false, false, false, false, false, false, false, false, false, false, false, false, false, false, false, false, false, false, false, false, false, false] rfl rfl (any_of HT_.out (by kernel_rfl)) (fun _ _ _ h => h) (Or.inl ⟨by rfl, ?_⟩) ?_ ?_
           rotate_left
           ·intro w'
            go_simp
            with_reducible rfl
           rotate_left
           ·exact pt_
           refine pure_ (i := 8) (N := some 67) (v := ?_) (a' := ?_) #[true, true, true, true, true, true, true, true, true, false, false, false, false, false, false, false, false, false, false, false, false, false, false, false, false, false, false, false, false, false, false, false, false, false] rfl rfl (any_of HT_.out (by kernel_rfl)) (fun _ _ _ h => h) (Or.inl ⟨by rfl, ?_⟩) ?_ ?_
           rotate_left
           ·intro w'
            go_simp
            with_reducible rfl
           rotate_left
           ·exact pt_
           refine pure_ (i := 9) (N := some 68) (v := ?_) (a' := ?_) #[true, true, true, true, true, true, true, true, true, true, false, false, false, false, false, false, false, false, false, false, false, false, false, false, false, false, false, false, false, false, false, false, false, false] rfl rfl (any_of HT_.out (by kernel_rfl)) (fun _ _ _ h => h) (Or.inl ⟨by rfl, ?_⟩) ?_ ?_
           rotate_left
           ·intro w'
            go_simp
            with_reducible rfl
           rotate_left
           ·exact pt_
           refine pure_ (i := 10) (N := some 69) (v := ?_) (a' := ?_) #[true, true, true, true, true, true, true, true, true, true, true, false, false, false, false, false, false, false, false, false, false, false, false, false, false, false, false, false, false, false, false, false, false, false] rfl rfl (any_of HT_.out (by kernel_rfl)) (fun _ _ _ h => h) (Or.inl ⟨by rfl, ?_⟩) ?_ ?_
           rotate_left
           ·intro w'
            go_simp
            with_reducible rfl
           rotate_left
           ·exact pt_
           refine pure_ (i := 11) (N := some 70) (v := ?_) (a' := ?_) #[true, true, true, true, true, true, true, true, true, true, true, true, false, false, false, false, false, false, false, false, false, false, false, false, false, false, false, false, false, false, false, false, false, false] rfl rfl (any_of HT_.out (by kernel_rfl)) (fun _ _ _ h => h) (Or.inl ⟨by rfl, ?_⟩) ?_ ?_
           rotate_left
           ·intro w'
            go_simp
            with_reducible rfl
           rotate_left
           ·exact pt_
           refine pure_ (i := 12) (N := some 71) (v := ?_) (a' := ?_) #[true, true, true, true, true, true, true, true, true, true, true, true, true, false, false, false, false, false, false, false, false, false, false, false, false, false, false, false, false, false, false, false, false, false] rfl rfl (any_of HT_.out (by kernel_rfl)) (fun _ _ _ h => h) (Or.inl ⟨by rfl, ?_⟩) ?_ ?_
           rotate_left
           ·intro w'
            go_simp
            with_reducible rfl
           rotate_left
           ·exact pt_
           refine pure_ (i := 13) (N := some 72) (v := ?_) (a' := ?_) #[true, true, true, true, true, true, true, true, true, true, true, true, true, true, false, false, false, false, false, false, false, false, false, false, false, false, false, false, false, false, false, false, false, false] rfl rfl (any_of HT_.out (by kernel_rfl)) (fun _ _ _ h => h) (Or.inl ⟨by rfl, ?_⟩) ?_ ?_
           rotate_left
           ·intro w'
            go_simp
            with_reducible rfl
           rotate_left
           ·exact pt_
           refine pure_ (i := 14) (N := some 73) (v := ?_) (a' := ?_) #[true, true, true, true, true, true, true, true, true, true, true, true, true, true, true, false, false, false, false, false, false, false, false, false, false, false, false, false, false, false, false, false, false, false] rfl rfl (any_of HT_.out (by kernel_rfl)) (fun _ _ _ h => h) (Or.inl ⟨by rfl, ?_⟩) ?_ ?_
           rotate_left
           ·intro w'
            go_simp
            with_reducible rfl
           rotate_left
           ·exact pt_
           refine pure_ (i := 15) (N := some 74) (v := ?_) (a' := ?_) #[true, true, true, true, true, true, true, true, true, true, true, true, true, true, true, true, false, false, false, false, false, false, false, false, false, false, false, false, false, false, false, false, false, false] rfl rfl (any_of HT_.out (by kernel_rfl)) (fun _ _ _ h => h) (Or.inl ⟨by rfl, ?_⟩) ?_ ?_
           rotate_left
           ·intro w'
            go_simp
            with_reducible rfl
           rotate_left
           ·exact pt_
           refine pure_ (i := 16) (N := some 75) (v := ?_) (a' := ?_) #[true, true, true, true, true, true, true, true, true, true, true, true, true, true, true, true, true, false, false, false, false, false, false, false, false, false, false, false, false, false, false, false, false, false] rfl rfl (any_of HT_.out (by kernel_rfl)) (fun _ _ _ h => h) (Or.inl ⟨by rfl, ?_⟩) ?_ ?_
           rotate_left
           ·intro w'
            go_simp
            with_reducible rfl
           rotate_left
           ·exact pt_
           refine pure_ (i := 17) (N := some 76) (v := ?_) (a' := ?_) #[true, true, true, true, true, true, true, true, true, true, true, true, true, true, true, true, true, true, false, false, false, false, false, false, false, false, false, false, false, false, false, false, false, false] rfl rfl (any_of HT_.out (by kernel_rfl)) (fun _ _ _ h => h) (Or.inl ⟨by rfl, ?_⟩) ?_ ?_
           rotate_left
           ·intro w'
            go_simp
            with_reducible rfl
           rotate_left
           ·exact pt_
           refine pure_ (i := 18) (N := some 77) (v := ?_) (a' := ?_) #[true, true, true, true, true, true, true, true, true, true, true, true, true, true, true, true, true, true, true, false, false, false, false, false, false, false, false, false, false, false, false, false, false, false] rfl rfl (any_of HT_.out (by kernel_rfl)) (fun _ _ _ h => h) (Or.inl ⟨by rfl, ?_⟩) ?_ ?_
           rotate_left
           ·intro w'
            go_simp
            with_reducible rfl
           rotate_left
           ·exact pt_
           refine pure_ (i := 19) (N := some 78) (v := ?_) (a' := ?_) #[true, true, true, true, true, true, true, true, true, true, true, true, true, true, true, true, true, true, true, true, false, false, false, false, false, false, false, false, false, false, false, false, false, false] rfl rfl (any_of HT_.out (by kernel_rfl)) (fun _ _ _ h => h) (Or.inl ⟨by rfl, ?_⟩) ?_ ?_
           rotate_left
           ·intro w'
            go_simp
            with_reducible rfl
           rotate_left
           ·exact pt_
           refine pure_ (i := 20) (N := some 79) (v := ?_) (a' := ?_) #[true, true, true, true, true, true, true, true, true, true, true, true, true, true, true, true, true, true, true, true, true, false, false, false, false, false, false, false, false, false, false, false, false, false] rfl rfl (any_of HT_.out (by kernel_rfl)) (fun _ _ _ h => h) (Or.inl ⟨by rfl, ?_⟩) ?_ ?_
           rotate_left
           ·intro w'
            go_simp
            with_reducible rfl
           rotate_left
           ·exact pt_
           refine pure_ (i := 21) (N := some 80) (v := ?_) (a' := ?_) #[true, true, true, true, true, true, true, true, true, true, true, true, true, true, true, true, true, true, true, true, true, true, false, false, false, false, false, false, false, false, false, false, false, false] rfl rfl (any_of HT_.out (by kernel_rfl)) (fun _ _ _ h => h) (Or.inl ⟨by rfl, ?_⟩) ?_ ?_
           rotate_left
           ·intro w'
            go_simp
            with_reducible rfl
           rotate_left
           ·exact pt_
           refine pure_ (i := 22) (N := some 81) (v := ?_) (a' := ?_) #[true, true, true, true, true, true, true, true, true, true, true, true, true, true, true, true, true, true, true, true, true, true, true, false, false, false, false, false, false, false, false, false, false, false] rfl rfl (any_of HT_.out (by kernel_rfl)) (fun _ _ _ h => h) (Or.inl ⟨by rfl, ?_⟩) ?_ ?_
           rotate_left
           ·intro w'
            go_simp
            with_reducible rfl
           rotate_left
           ·exact pt_
           refine take_ (i := 23) (N := some 82) (v := ?_) (a' := ?_) #[true, true, true, true, true, true, true, true, true, true, true, true, true, true, true, true, true, true, true, true, true, true, true, true, false, false, false, false, false, false, false, false, false, false] rfl rfl (take_ofW HT_.out HW_.out (by kernel_rfl)) (fun _ _ _ h => h) (Or.inl ⟨by rfl, ?_⟩) hHeld ?_ ?_
           rotate_left
           ·rintro w' ⟨s0, s1, s2, s3⟩
            go_simp
            with_reducible rfl
           rotate_left
           ·exact pt_
           refine one_ (i := 24) (N := some 83) #[true, true, true, true, true, true, true, true, true, true, true, true, true, true, true, true, true, true, true, true, true, true, true, true, true, false, false, false, false, false, false, false, false, false] rfl rfl (one_of HT_.out (by kernel_rfl)) (by decide) (fun K hK => ?_)
           refine gs_ Try.func22 #[.agg #[.bool t506, .slice Ao32 t507.length co32]] ?_
           with_reducible refine (whole_May.calls t506 _ _ t507 true _ ?side1 ?side2 A25.out).mono ?_
           (case side1 => repeat (first | exact (Kd.R_reads' HO509.out).2.2 | (with_reducible refine Kd.C_alloc ?_ _) | (with_reducible refine Kd.C_drewN ?_ _) | (with_reducible refine Kd.C_drew ?_)))
           (case side2 => exact (Kd.R_reads' HO509.out).2.1)
           rintro e w52 ⟨rfl, hb⟩
           refine ⟨_, rfl, ?_⟩
           replace HO509 := Aside0.mk (Kd.R_below (kr_ HO509.out) hb)
           replace HO519 := Aside0.mk (Kd.R_below (kr_ HO519.out) hb)
           replace HO525 := Aside0.mk (Kd.R_below (kr_ HO525.out) hb)
           replace HO530 := Aside0.mk (Kd.R_below (kr_ HO530.out) hb)
           replace HO534 := Aside0.mk (Kd.R_below (kr_ HO534.out) hb)
           replace BK510 := kq_ BK510 hb
           replace BK511 := kq_ BK511 hb
           replace HB := bq_ HB hb
           (try clear hb)
           (try clear hb2)
           (try clear hk)
           (try clear hi)
           refine hK.out _ _ ⟨(blk_cell BK510.out 0).trans rfl, (blk_cell BK510.out 1).trans rfl, (blk_cell BK511.out 0).trans rfl, (blk_cell BK511.out 1).trans rfl⟩ (fun hHeld => ?_)
           clear hK K
           refine norm_ (a' := ?_) ?_ ?_
           rotate_left
           ·show Act.put _ (some 83) _ = _
            exact pt_
           refine pure_ (i := 25) (N := some 84) (v := ?_) (a' := ?_) #[true, true, true, true, true, true, true, true, true, true, true, true, true, true, true, true, true, true, true, true, true, true, true, true, true, true, false, false, false, false, false, false, false, false] rfl rfl (any_of HT_.out (by kernel_rfl)) (fun _ _ _ h => h) (Or.inl ⟨by rfl, ?_⟩) ?_ ?_
           rotate_left
           ·intro w'
            go_simp
            with_reducible rfl
           rotate_left
           ·exact pt_
           refine pure_ (i := 26) (N := some 85) (v := ?_) (a' := ?_) #[true, true, true, true, true, true, true, true, true, true, true, true, true, true, true, true, true, true, true, true, true, true, true, true, true, true, true, false, false, false, false, false, false, false] rfl rfl (any_of HT_.out (by kernel_rfl)) (fun _ _ _ h => h) (Or.inl ⟨by rfl, ?_⟩) ?_ ?_
           rotate_left
           ·intro w'
            go_simp
            with_reducible rfl
           rotate_left
           ·exact pt_
           refine take_ (i := 27) (N := some 86) (v := ?_) (a' := ?_) #[true, true, true, true, true, true, true, true, true, true, true, true, true, true, true, true, true, true, true, true, true, true, true, true, true, true, true, true, false, false, false, false, false, false] rfl rfl (take_ofW HT_.out HW_.out (by kernel_rfl)) (fun _ _ _ h => h) (Or.inl ⟨by rfl, ?_⟩) hHeld ?_ ?_
           rotate_left
           ·rintro w' ⟨s0, s1, s2, s3⟩
            go_simp
            with_reducible rfl
           rotate_left
           ·exact pt_
           refine take_ (i := 29) (N := some 88) (v := ?_) (a' := ?_) #[true, true, true, true, true, true, true, true, true, true, true, true, true, true, true, true, true, true, true, true, true, true, true, true, true, true, true, true, false, true, false, false, false, false] rfl rfl (take_ofW HT_.out HW_.out (by kernel_rfl)) (fun _ _ _ h => h) (Or.inl ⟨by rfl, ?_⟩) hHeld ?_ ?_
           rotate_left
           ·rintro w' ⟨s0, s1, s2, s3⟩
            go_simp
            with_reducible rfl
           rotate_left
           ·exact pt_
           refine one_ (i := 28) (N := some 87) #[true, true, true, true, true, true, true, true, true, true, true, true, true, true, true, true, true, true, true, true, true, true, true, true, true, true, true, true, true, true, false, false, false, false] rfl rfl (one_of HT_.out (by kernel_rfl)) (by decide) (fun K hK => ?_)
           refine gs_ Try.func22 #[.agg #[.bool a0, .slice A1 l1.length c1]] ?_
           with_reducible refine (whole_May.calls a0 _ _ l1 t537 _ ?side1 ?side2 A27.out).mono ?_
           (case side1 => repeat (first | exact (Kd.C_below HR1.out HB.out) | (with_reducible refine Kd.C_alloc ?_ _) | (with_reducible refine Kd.C_drewN ?_ _) | (with_reducible refine Kd.C_drew ?_)))
           (case side2 => exact HC1.out)
           rintro e w53 ⟨rfl, hb⟩
           refine ⟨_, rfl, ?_⟩
           replace HO509 := Aside0.mk (Kd.R_below (kr_ HO509.out) hb)
           replace HO519 := Aside0.mk (Kd.R_below (kr_ HO519.out) hb)
           replace HO525 := Aside0.mk (Kd.R_below (kr_ HO525.out) hb)
           replace HO530 := Aside0.mk (Kd.R_below (kr_ HO530.out) hb)
           replace HO534 := Aside0.mk (Kd.R_below (kr_ HO534.out) hb)
           replace BK510 := kq_ BK510 hb
           replace BK511 := kq_ BK511 hb
           replace HB := bq_ HB hb
           (try clear hb)
           (try clear hb2)
           (try clear hk)
           (try clear hi)
           refine hK.out _ _ ⟨(blk_cell BK510.out 0).trans rfl, (blk_cell BK510.out 1).trans rfl, (blk_cell BK511.out 0).trans rfl, (blk_cell BK511.out 1).trans rfl⟩ (fun hHeld => ?_)
           clear hK K
           refine norm_ (a' := ?_) ?_ ?_
           rotate_left
           ·show Act.put _ (some 87) _ = _
            exact pt_
           refine one_ (i := 30) (N := some 89) #[true, true, true, true, true, true, true, true, true, true, true, true, true, true, true, true, true, true, true, true, true, true, true, true, true, true, true, true, true, true, true, false, false, false] rfl rfl (one_of HT_.out (by kernel_rfl)) (by decide) (fun K hK => ?_)
           refine gs_ Try.func23 #[.agg #[.bool a0, .slice A1 l1.length c1]] ?_
           with_reducible refine (pelorusref02_May.calls a0 _ _ l1 t538 _ ?side1 ?side2 A28.out).mono ?_
           (case side1 => repeat (first | exact (Kd.C_below HR1.out HB.out) | (with_reducible refine Kd.C_alloc ?_ _) | (with_reducible refine Kd.C_drewN ?_ _) | (with_reducible refine Kd.C_drew ?_)))
           (case side2 => exact HC1.out)
           rintro e w54 ⟨rfl, hb⟩
           refine ⟨_, rfl, ?_⟩
           replace HO509 := Aside0.mk (Kd.R_below (kr_ HO509.out) hb)
           replace HO519 := Aside0.mk (Kd.R_below (kr_ HO519.out) hb)
           replace HO525 := Aside0.mk (Kd.R_below (kr_ HO525.out) hb)
           replace HO530 := Aside0.mk (Kd.R_below (kr_ HO530.out) hb)
           replace HO534 := Aside0.mk (Kd.R_below (kr_ HO534.out) hb)
           replace BK510 := kq_ BK510 hb
           replace BK511 := kq_ BK511 hb
           replace HB := bq_ HB hb
           (try clear hb)
           (try clear hb2)
           (try clear hk)
           (try clear hi)
           refine hK.out _ _ ⟨(blk_cell BK510.out 0).trans rfl, (blk_cell BK510.out 1).trans rfl, (blk_cell BK511.out 0).trans rfl, (blk_cell BK511.out 1).trans rfl⟩ (fun hHeld => ?_)
           clear hK K
           refine norm_ (a' := ?_) ?_ ?_
           rotate_left
           ·show Act.put _ (some 89) _ = _
            exact pt_
           refine pure_ (i := 31) (N := some 90) (v := ?_) (a' := ?_) #[true, true, true, true, true, true, true, true, true, true, true, true, true, true, true, true, true, true, true, true, true, true, true, true, true, true, true, true, true, true, true, true, false, false] rfl rfl (any_of HT_.out (by kernel_rfl)) (fun _ _ _ h => h) (Or.inl ⟨by rfl, ?_⟩) ?_ ?_
           rotate_left
           ·intro w'
            go_simp
            with_reducible rfl
           rotate_left
           ·exact pt_
           refine pure_ (i := 32) (N := some 91) (v := ?_) (a' := ?_) #[true, true, true, true, true, true, true, true, true, true, true, true, true, true, true, true, true, true, true, true, true, true, true, true, true, true, true, true, true, true, true, true, true, false] rfl rfl (any_of HT_.out (by kernel_rfl)) (fun _ _ _ h => h) (Or.inl ⟨by rfl, ?_⟩) ?_ ?_
           rotate_left
           ·intro w'
            go_simp
            with_reducible rfl
           rotate_left
           ·exact pt_
           refine pure_ (i := 33) (N := some 6) (v := ?_) (a' := ?_) #[true, true, true, true, true, true, true, true, true, true, true, true, true, true, true, true, true, true, true, true, true, true, true, true, true, true, true, true, true, true, true, true, true, true] rfl rfl (any_of HT_.out (by kernel_rfl)) (fun _ _ _ h => h) (Or.inl ⟨by rfl, ?_⟩) ?_ ?_
           rotate_left
           ·intro w'
            go_simp
            with_reducible rfl
           rotate_left
           ·exact pt_
           refine done_ (done_of HT_.out (by kernel_rfl)) ?_
           try go_wp2
           go_ret
           exact ⟨rf_, bw_ HB.out⟩
          ·replace c26 := Bool.eq_false_iff.mpr c26
           subst c26
           have H1 : (some false) = some r := by rw [if_neg (show ¬ (false = true) by decide)] at H; exact H
           clear H
           have H := H1
           clear H1
           exact absurd ((Option.some.inj H).trans HRT_.out) (by simp)
         ·rw [if_neg c24] at H
          have c24b0 : (t520 == a2) = false := beq_eq_false_iff_ne.mpr c24
          have c24b1 : (t520 != a2) = true := bne_iff_ne.mpr c24
          exact absurd ((Option.some.inj H).trans HRT_.out) (by simp)
        ·replace c23 := Bool.eq_false_iff.mpr c23
         subst c23
         have H1 : (some false) = some r := by rw [if_neg (show ¬ (false = true) by decide)] at H; exact H
         clear H
         have H := H1
         clear H1
         exact absurd ((Option.some.inj H).trans HRT_.out) (by simp)
       ·rw [if_neg c22] at H
        have c22b0 : (t513 == t515) = false := by simpa using c22
        (try (have c22b1 : decide (t513 = t515) = false := by simpa using c22))
        (try (have c22b2 : (t513 == t515) = false := by simpa using c22))
        (try (have c22b3 : ¬ (t513 = t515) := by simpa using c22))
        clear c22
        exact absurd ((Option.some.inj H).trans HRT_.out) (by simp)
      ·rw [if_neg c21] at H
       have c21b0 : (t512 == t514) = false := beq_eq_false_iff_ne.mpr c21
       have c21b1 : (t512 != t514) = true := bne_iff_ne.mpr c21
       exact absurd ((Option.some.inj H).trans HRT_.out) (by simp)
     ·replace c20 := Bool.eq_false_iff.mpr c20
      subst c20
      have H1 : (some false) = some r := by rw [if_neg (show ¬ (false = true) by decide)] at H; exact H
      clear H
      have H := H1
      clear H1
      exact absurd ((Option.some.inj H).trans HRT_.out) (by simp)
    ·replace c19 := Bool.eq_false_iff.mpr c19
     subst c19
     have H1 : (some false) = some r := by rw [if_neg (show ¬ (false = true) by decide)] at H; exact H
     clear H
     have H := H1
     clear H1
     exact absurd ((Option.some.inj H).trans HRT_.out) (by simp)


end Go.Proofs.Ytbejmpocgnldnaa.PA
