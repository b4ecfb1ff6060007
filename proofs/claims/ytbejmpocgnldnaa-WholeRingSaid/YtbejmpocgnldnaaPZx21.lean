-- Laid by this work's own program; Lean checks it.
import Derived.Test.YtbejmpocgnldnaaPZx0
import Derived.Test.YtbejmpocgnldnaaPZx1
import Derived.Test.YtbejmpocgnldnaaPZx2
import Derived.Test.YtbejmpocgnldnaaPZx7
import Derived.Test.YtbejmpocgnldnaaPZx8
namespace Go.Proofs.Ytbejmpocgnldnaa.PZ
open Go.RowKit Go.Proofs.YtbejmpocgnldnaaW.PrintWords Go.Proofs.YtbejmpocgnldnaaW.PrintLast Go.Proofs.YtbejmpocgnldnaaW.PrintMore
attribute [local go_sem] max2_int min2_int max_two min_two max_three min_three max_four min_four   -- for this text's walks alone
set_option linter.unusedVariables false
set_option linter.unusedSimpArgs false

attribute [local go_sem ↓ high] isSome_set_
/-! ### peloruslaw02_awake: function 9 -/
set_option maxHeartbeats 8000000 in
set_option maxRecDepth 100000 in
theorem peloruslaw02_awake.calls (k : Nat)  (r : Bool) (w : World) (hr_ : r = true) (h : peloruslaw02_awake.f k  = some r) :
  Calls Try.prog 9 #[] w fun e w' => e = .returned (.bool r) ∧ Below w.heap.size w w' := by
 have HRT_ := Aside0.mk hr_
 clear hr_
 have hu24 := Try.underlying24
 have HB := Aside0.mk (Below.refl w.heap.size w)
 have H : ((whole_From.f k (-7)).bind fun bt417 => ((whole_From.f k 2).bind fun bt421 => ((whole_Div.f k bt417.1 bt417.2 bt421.1 bt421.2).bind fun bt425 => ((whole_Int.f k bt425.1 bt425.2.1).bind fun bt436 => ((whole_Int.f k bt425.2.2.1 bt425.2.2.2.1).bind fun bt438 => ((whole_From.f k 2).bind fun bt440 => ((whole_From.f k (-3)).bind fun bt444 => ((whole_From.f k 4).bind fun bt448 => ((whole_Mul.f k (([(⟨bt440.1, bt440.2⟩ : S24), (⟨bt444.1, bt444.2⟩ : S24), (⟨bt448.1, bt448.2⟩ : S24)] : List (S24)))).bind fun bt455 => ((whole_Int.f k bt455.1 bt455.2).bind fun bt459 => (if bt425.2.2.2.2 = true then (if bt436.1 = (-4) then (if bt436.2 = true then (if bt438.1 = 1 then (if bt438.2 = true then (if bt459.1 = (-24) then (some bt459.2) else (some false)) else (some false)) else (some false)) else (some false)) else (some false)) else (some false)))))))))))) = some r := h
 clear h
 replace H := Option.bind_eq_some_iff.mp H
 obtain ⟨⟨t417, t418⟩, A10, H⟩ := H
 (try dsimp only at H)
 have A1 := Aside0.mk A10
 clear A10
 replace H := Option.bind_eq_some_iff.mp H
 obtain ⟨⟨t421, t422⟩, A20, H⟩ := H
 (try dsimp only at H)
 have A2 := Aside0.mk A20
 clear A20
 replace H := Option.bind_eq_some_iff.mp H
 obtain ⟨⟨t425, t426, t429, t430, t433⟩, A30, H⟩ := H
 (try dsimp only at H)
 have A3 := Aside0.mk A30
 clear A30
 replace H := Option.bind_eq_some_iff.mp H
 obtain ⟨⟨t436, t437⟩, A40, H⟩ := H
 (try dsimp only at H)
 have A4 := Aside0.mk A40
 clear A40
 replace H := Option.bind_eq_some_iff.mp H
 obtain ⟨⟨t438, t439⟩, A50, H⟩ := H
 (try dsimp only at H)
 have A5 := Aside0.mk A50
 clear A50
 replace H := Option.bind_eq_some_iff.mp H
 obtain ⟨⟨t440, t441⟩, A60, H⟩ := H
 (try dsimp only at H)
 have A6 := Aside0.mk A60
 clear A60
 replace H := Option.bind_eq_some_iff.mp H
 obtain ⟨⟨t444, t445⟩, A70, H⟩ := H
 (try dsimp only at H)
 have A7 := Aside0.mk A70
 clear A70
 replace H := Option.bind_eq_some_iff.mp H
 obtain ⟨⟨t448, t449⟩, A80, H⟩ := H
 (try dsimp only at H)
 have A8 := Aside0.mk A80
 clear A80
 obtain ⟨y452, hy452⟩ : ∃ y_ : List (S24), y_ = (([(⟨t440, t441⟩ : S24), (⟨t444, t445⟩ : S24), (⟨t448, t449⟩ : S24)] : List (S24))) := ⟨_, rfl⟩
 replace H : ((whole_Mul.f k y452).bind fun bt455 => ((whole_Int.f k bt455.1 bt455.2).bind fun bt459 => (if t433 = true then (if t436 = (-4) then (if t437 = true then (if t438 = 1 then (if t439 = true then (if bt459.1 = (-24) then (some bt459.2) else (some false)) else (some false)) else (some false)) else (some false)) else (some false)) else (some false)))) = some r := by first | (rw [hy452]; with_reducible exact H) | (have H2_ := (Option.bind_some _ _).symm.trans H; rw [hy452]; with_reducible exact H2_) | (have H2_ := (Option.bind_some _ _).symm.trans H; with_reducible exact H2_) | with_reducible exact H | (rw [hy452]; exact H) | exact H
 have Ny452 := Aside0.mk hy452
 clear hy452
 replace H := Option.bind_eq_some_iff.mp H
 obtain ⟨⟨t455, t456⟩, A90, H⟩ := H
 (try dsimp only at H)
 have A9 := Aside0.mk A90
 clear A90
 replace H := Option.bind_eq_some_iff.mp H
 obtain ⟨⟨t459, t460⟩, A100, H⟩ := H
 (try dsimp only at H)
 have A10 := Aside0.mk A100
 clear A100
 by_cases c11 : t433 = true
 ·subst c11
  have H1 : (if t436 = (-4) then (if t437 = true then (if t438 = 1 then (if t439 = true then (if t459 = (-24) then (some t460) else (some false)) else (some false)) else (some false)) else (some false)) else (some false)) = some r := by rw [if_pos rfl] at H; exact H
  clear H
  have H := H1
  clear H1
  by_cases c12 : t436 = (-4)
  ·rw [if_pos c12] at H
   have c12b0 : (t436 == (-4)) = true := beq_iff_eq.mpr c12
   have c12b1 : (t436 != (-4)) = false := bne_eq_false_iff_eq.mpr c12
   clear c12
   by_cases c13 : t437 = true
   ·subst c13
    have H1 : (if t438 = 1 then (if t439 = true then (if t459 = (-24) then (some t460) else (some false)) else (some false)) else (some false)) = some r := by rw [if_pos rfl] at H; exact H
    clear H
    have H := H1
    clear H1
    by_cases c14 : t438 = 1
    ·rw [if_pos c14] at H
     have c14b0 : (t438 == 1) = true := beq_iff_eq.mpr c14
     have c14b1 : (t438 != 1) = false := bne_eq_false_iff_eq.mpr c14
     clear c14
     by_cases c15 : t439 = true
     ·subst c15
      have H1 : (if t459 = (-24) then (some t460) else (some false)) = some r := by rw [if_pos rfl] at H; exact H
      clear H
      have H := H1
      clear H1
      by_cases c16 : t459 = (-24)
      ·rw [if_pos c16] at H
       have c16b0 : (t459 == (-24)) = true := beq_iff_eq.mpr c16
       have c16b1 : (t459 != (-24)) = false := bne_eq_false_iff_eq.mpr c16
       clear c16
       obtain rfl := Option.some.inj H
       go_enter Try.func9, Try.ntmps9
       go_wp2_with (first | ((with_reducible refine gate_callee (f := 19) rfl ?_); refine gl_ (some 11) Try.func19 #[.int .i64 (-7)] ?_; (with_reducible refine (whole_From.calls k (-7) t417 t418 _ A1.out).mono ?_); rintro e w17 ⟨v419, rfl, ho0, hb⟩; refine ⟨_, rfl, ?_⟩; have HO420 := Aside0.mk (Kd.R_lower ho0 (below_size (bw_ HB.out))); replace HB := bq_ HB hb; (try clear hb); (try clear hb2); (try clear hk); (try clear hi); (try clear ho0)) | ((with_reducible refine gate_callee (f := 19) rfl ?_); refine gl_ (some 12) Try.func19 #[.int .i64 2] ?_; (with_reducible refine (whole_From.calls k 2 t421 t422 _ A2.out).mono ?_); rintro e w18 ⟨v423, rfl, ho0, hb⟩; refine ⟨_, rfl, ?_⟩; have HO424 := Aside0.mk (Kd.R_lower (Kd.R_new' ho0 (Kd.R_lt (kr_ HO420.out))) (below_size (bw_ HB.out))); replace HO420 := Aside0.mk (Kd.R_elder' (kr_ HO420.out) (Kd.R_base ho0) hb); replace HB := bq_ HB hb; (try clear hb); (try clear hb2); (try clear hk); (try clear hi); (try clear ho0); obtain ⟨Ao19, co19, eo19⟩ := Kd.R_slice HO420.out; subst eo19; obtain ⟨Ao20, co20, eo20⟩ := Kd.R_slice HO424.out; subst eo20) | ((with_reducible refine gate_callee (f := 11) rfl ?_); refine gl_ (some 13) Try.func11 #[.agg #[.bool t417, .slice Ao19 t418.length co19], .agg #[.bool t421, .slice Ao20 t422.length co20]] ?_; (with_reducible refine (whole_Div.calls k t417 _ _ t418 t421 _ _ t422 t425 t426 t429 t430 true _ ?side1 ?side2 ?side3 ?side4 A3.out).mono ?_); (case side1 => exact kc_ (Kd.R_reads' HO420.out).2.2); (case side2 => exact (Kd.R_reads' HO420.out).2.1); (case side3 => exact kc_ (Kd.R_reads' HO424.out).2.2); (case side4 => exact (Kd.R_reads' HO424.out).2.1); rintro e w21 ⟨v427, v431, rfl, ho0, ho1, hb⟩; refine ⟨_, rfl, ?_⟩; have HO428 := Aside0.mk (Kd.R_lower (Kd.R_new' (Kd.R_new' ho0 (Kd.R_lt (kr_ HO420.out))) (Kd.R_lt (kr_ HO424.out))) (below_size (bw_ HB.out))); have HO432 := Aside0.mk (Kd.R_lower (Kd.R_new' (Kd.R_new' ho1 (Kd.R_lt (kr_ HO420.out))) (Kd.R_lt (kr_ HO424.out))) (below_size (bw_ HB.out))); replace HO420 := Aside0.mk (Kd.R_mono (Kd.R_told (Kd.R_told (Kd.R_old (kr_ HO420.out) hb) (Kd.R_base ho0)) (Kd.R_base ho1)) (fun _ h_ => h_.1)); replace HO424 := Aside0.mk (Kd.R_mono (Kd.R_told (Kd.R_told (Kd.R_old (kr_ HO424.out) hb) (Kd.R_base ho0)) (Kd.R_base ho1)) (fun _ h_ => h_.1)); replace HB := bq_ HB hb; (try clear hb); (try clear hb2); (try clear hk); (try clear hi); (try clear ho0); (try clear ho1)) | ((with_reducible refine gate_dst (N := 1) rfl ?_); refine bx_ 1 #[.bool false, .slice none 0 0] 24 ?_; intro gb434 hg w22 hbox hb; have BK434 := Aside0.mk (hbox); have GW434 := ge_ hg HB; have GE434 := ge_ hg HB; replace HO420 := Aside0.mk (Kd.R_below (kr_ HO420.out) hb); replace HO424 := Aside0.mk (Kd.R_below (kr_ HO424.out) hb); replace HO428 := Aside0.mk (Kd.R_below (kr_ HO428.out) hb); replace HO432 := Aside0.mk (Kd.R_below (kr_ HO432.out) hb); replace HB := bq_ HB hb; clear hb hbox hg) | ((with_reducible refine gate_dst (N := 2) rfl ?_); refine bx_ 2 #[.bool false, .slice none 0 0] 24 ?_; intro gb435 hg w23 hbox hb; have BK435 := Aside0.mk (hbox); have GW435 := ge_ hg HB; have GE435 := ge_ hg HB; have NB434_435 := nb_ hg BK434; have NB435_434 := nc_ hg BK434; replace HO420 := Aside0.mk (Kd.R_below (kr_ HO420.out) hb); replace HO424 := Aside0.mk (Kd.R_below (kr_ HO424.out) hb); replace HO428 := Aside0.mk (Kd.R_below (kr_ HO428.out) hb); replace HO432 := Aside0.mk (Kd.R_below (kr_ HO432.out) hb); replace BK434 := kq_ BK434 hb; replace HB := bq_ HB hb; clear hb hbox hg; have hnb24 := NB434_435.out; have hnc24 := NB435_434.out; obtain ⟨hcz25_0, hcz25_1, hfz25_0, hfz25_1⟩ := c2_ BK434; obtain ⟨Ao26, co26, eo26⟩ := Kd.R_slice HO428.out; subst eo26; obtain ⟨hcz27_0, hcz27_1, hfz27_0, hfz27_1⟩ := c2_ BK435; obtain ⟨Ao28, co28, eo28⟩ := Kd.R_slice HO432.out; subst eo28) | ((with_reducible refine gate_callee (f := 17) rfl ?_); refine gl_ (some 19) Try.func17 #[.agg #[.bool t425, .slice Ao26 t426.length co26]] ?_; (with_reducible refine (whole_Int.calls k t425 _ _ t426 t436 true _ ?side1 ?side2 A4.out).mono ?_); (case side1 => refine (Kd.R_reads' (e := 47) (base := w.heap.size) (ok := fun k_ => ((some k_ ≠ (.slice Ao28 t430.length co28 : Value).ownBlock ∧ some k_ ≠ (.slice Ao19 t418.length co19 : Value).ownBlock) ∧ some k_ ≠ (.slice Ao20 t422.length co20 : Value).ownBlock)) (n := t426.length) (c := co26) ?_).2.2; exact (kr_ ((Kd.R_mono (Kd.R_mono (Kd.R_far (p := ⟨gb435, 1, none⟩) (Kd.R_far (p := ⟨gb435, 0, none⟩) (Kd.R_far (p := ⟨gb434, 1, none⟩) (Kd.R_far (p := ⟨gb434, 0, none⟩) (Kd.R_types (Kd.R_types HO428.out BK434.out (by decide)) BK435.out (by decide)) (fun _ hk => hk.1.2) (.bool t425)) (fun _ hk => hk.1.2) (.slice Ao26 t426.length co26)) (fun _ hk => hk.2) (.bool t429)) (fun _ hk => hk.2) (.slice Ao28 t430.length co28)) (fun _ h_ => h_.1)) (fun _ h_ => h_.1))))); (case side2 => exact (Kd.R_reads' HO428.out).2.1); rintro e w29 ⟨rfl, hb⟩; refine ⟨_, rfl, ?_⟩; have n0_ := Aside0.mk (Kd.R_below (kr_ ((Kd.R_mono (Kd.R_mono (Kd.R_far (p := ⟨gb435, 1, none⟩) (Kd.R_far (p := ⟨gb435, 0, none⟩) (Kd.R_far (p := ⟨gb434, 1, none⟩) (Kd.R_far (p := ⟨gb434, 0, none⟩) (Kd.R_types (Kd.R_types HO420.out BK434.out (by decide)) BK435.out (by decide)) (fun _ hk => hk.1.2) (.bool t425)) (fun _ hk => hk.1.2) (.slice Ao26 t426.length co26)) (fun _ hk => hk.2) (.bool t429)) (fun _ hk => hk.2) (.slice Ao28 t430.length co28)) (fun _ h_ => h_.1)) (fun _ h_ => h_.1)))) hb); have n1_ := Aside0.mk (Kd.R_below (kr_ ((Kd.R_mono (Kd.R_mono (Kd.R_far (p := ⟨gb435, 1, none⟩) (Kd.R_far (p := ⟨gb435, 0, none⟩) (Kd.R_far (p := ⟨gb434, 1, none⟩) (Kd.R_far (p := ⟨gb434, 0, none⟩) (Kd.R_types (Kd.R_types HO424.out BK434.out (by decide)) BK435.out (by decide)) (fun _ hk => hk.1.2) (.bool t425)) (fun _ hk => hk.1.2) (.slice Ao26 t426.length co26)) (fun _ hk => hk.2) (.bool t429)) (fun _ hk => hk.2) (.slice Ao28 t430.length co28)) (fun _ h_ => h_.1)) (fun _ h_ => h_.1)))) hb); have n2_ := Aside0.mk (Kd.R_below (kr_ ((Kd.R_mono (Kd.R_mono (Kd.R_far (p := ⟨gb435, 1, none⟩) (Kd.R_far (p := ⟨gb435, 0, none⟩) (Kd.R_far (p := ⟨gb434, 1, none⟩) (Kd.R_far (p := ⟨gb434, 0, none⟩) (Kd.R_types (Kd.R_types HO428.out BK434.out (by decide)) BK435.out (by decide)) (fun _ hk => hk.1.2) (.bool t425)) (fun _ hk => hk.1.2) (.slice Ao26 t426.length co26)) (fun _ hk => hk.2) (.bool t429)) (fun _ hk => hk.2) (.slice Ao28 t430.length co28)) (fun _ h_ => h_.1)) (fun _ h_ => h_.1)))) hb); have n3_ := Aside0.mk (Kd.R_below (kr_ ((Kd.R_mono (Kd.R_mono (Kd.R_far (p := ⟨gb435, 1, none⟩) (Kd.R_far (p := ⟨gb435, 0, none⟩) (Kd.R_far (p := ⟨gb434, 1, none⟩) (Kd.R_far (p := ⟨gb434, 0, none⟩) (Kd.R_types (Kd.R_types HO432.out BK434.out (by decide)) BK435.out (by decide)) (fun _ hk => hk.1.2) (.bool t425)) (fun _ hk => hk.1.2) (.slice Ao26 t426.length co26)) (fun _ hk => hk.2) (.bool t429)) (fun _ hk => hk.2) (.slice Ao28 t430.length co28)) (fun _ h_ => h_.1)) (fun _ h_ => h_.1)))) hb); have n4_ := Aside0.mk (blk_below (g := gb434) (o := .cells #[.bool t425, .slice Ao26 t426.length co26] 24 (0, 0)) (by refine kb_ ?_; refine bf_ NB434_435 ?_; refine bf_ NB434_435 ?_; refine bp_ #[.bool t425, .slice none 0 0] 1 ?_; refine bp_ #[.bool false, .slice none 0 0] 0 ?_; exact BK434.out) hb); have n5_ := Aside0.mk (blk_below (g := gb435) (o := .cells #[.bool t429, .slice Ao28 t430.length co28] 24 (0, 0)) (by refine kb_ ?_; refine bp_ #[.bool t429, .slice none 0 0] 1 ?_; refine bp_ #[.bool false, .slice none 0 0] 0 ?_; refine bf_ NB435_434 ?_; refine bf_ NB435_434 ?_; exact BK435.out) hb); have n6_ := bq_ HB hb; clear HO420; clear HO424; clear HO428; clear HO432; clear BK434; clear BK435; clear HB; have HO420 := n0_; have HO424 := n1_; have HO428 := n2_; have HO432 := n3_; have BK434 := n4_; have BK435 := n5_; have HB := n6_; clear n0_ n1_ n2_ n3_ n4_ n5_ n6_; (try clear hb); (try clear hb2); (try clear hk); (try clear hi); obtain ⟨hcz30_0, hcz30_1, hfz30_0, hfz30_1⟩ := c2_ BK435) | ((with_reducible refine gate_callee (f := 17) rfl ?_); refine gl_ (some 24) Try.func17 #[.agg #[.bool t429, .slice Ao28 t430.length co28]] ?_; (with_reducible refine (whole_Int.calls k t429 _ _ t430 t438 true _ ?side1 ?side2 A5.out).mono ?_); (case side1 => exact kc_ (Kd.R_reads' HO432.out).2.2); (case side2 => exact (Kd.R_reads' HO432.out).2.1); rintro e w31 ⟨rfl, hb⟩; refine ⟨_, rfl, ?_⟩; replace HO420 := Aside0.mk (Kd.R_below (kr_ HO420.out) hb); replace HO424 := Aside0.mk (Kd.R_below (kr_ HO424.out) hb); replace HO428 := Aside0.mk (Kd.R_below (kr_ HO428.out) hb); replace HO432 := Aside0.mk (Kd.R_below (kr_ HO432.out) hb); replace BK434 := kq_ BK434 hb; replace BK435 := kq_ BK435 hb; replace HB := bq_ HB hb; (try clear hb); (try clear hb2); (try clear hk); (try clear hi)) | ((with_reducible refine gate_callee (f := 19) rfl ?_); refine gl_ (some 28) Try.func19 #[.int .i64 2] ?_; (with_reducible refine (whole_From.calls k 2 t440 t441 _ A6.out).mono ?_); rintro e w32 ⟨v442, rfl, ho0, hb⟩; refine ⟨_, rfl, ?_⟩; have HO443 := Aside0.mk (Kd.R_lower (Kd.R_new' (Kd.R_new' (Kd.R_new' (Kd.R_new' ho0 (Kd.R_lt (kr_ HO420.out))) (Kd.R_lt (kr_ HO424.out))) (Kd.R_lt (kr_ HO428.out))) (Kd.R_lt (kr_ HO432.out))) (below_size (bw_ HB.out))); replace HO420 := Aside0.mk (Kd.R_elder' (kr_ HO420.out) (Kd.R_base ho0) hb); replace HO424 := Aside0.mk (Kd.R_elder' (kr_ HO424.out) (Kd.R_base ho0) hb); replace HO428 := Aside0.mk (Kd.R_elder' (kr_ HO428.out) (Kd.R_base ho0) hb); replace HO432 := Aside0.mk (Kd.R_elder' (kr_ HO432.out) (Kd.R_base ho0) hb); replace BK434 := kq_ BK434 hb; replace BK435 := kq_ BK435 hb; replace HB := bq_ HB hb; (try clear hb); (try clear hb2); (try clear hk); (try clear hi); (try clear ho0)) | ((with_reducible refine gate_callee (f := 19) rfl ?_); refine gl_ (some 29) Try.func19 #[.int .i64 (-3)] ?_; (with_reducible refine (whole_From.calls k (-3) t444 t445 _ A7.out).mono ?_); rintro e w33 ⟨v446, rfl, ho0, hb⟩; refine ⟨_, rfl, ?_⟩; have HO447 := Aside0.mk (Kd.R_lower (Kd.R_new' (Kd.R_new' (Kd.R_new' (Kd.R_new' (Kd.R_new' ho0 (Kd.R_lt (kr_ HO420.out))) (Kd.R_lt (kr_ HO424.out))) (Kd.R_lt (kr_ HO428.out))) (Kd.R_lt (kr_ HO432.out))) (Kd.R_lt (kr_ HO443.out))) (below_size (bw_ HB.out))); replace HO420 := Aside0.mk (Kd.R_elder' (kr_ HO420.out) (Kd.R_base ho0) hb); replace HO424 := Aside0.mk (Kd.R_elder' (kr_ HO424.out) (Kd.R_base ho0) hb); replace HO428 := Aside0.mk (Kd.R_elder' (kr_ HO428.out) (Kd.R_base ho0) hb); replace HO432 := Aside0.mk (Kd.R_elder' (kr_ HO432.out) (Kd.R_base ho0) hb); replace HO443 := Aside0.mk (Kd.R_elder' (kr_ HO443.out) (Kd.R_base ho0) hb); replace BK434 := kq_ BK434 hb; replace BK435 := kq_ BK435 hb; replace HB := bq_ HB hb; (try clear hb); (try clear hb2); (try clear hk); (try clear hi); (try clear ho0)) | ((with_reducible refine gate_callee (f := 19) rfl ?_); refine gl_ (some 30) Try.func19 #[.int .i64 4] ?_; (with_reducible refine (whole_From.calls k 4 t448 t449 _ A8.out).mono ?_); rintro e w34 ⟨v450, rfl, ho0, hb⟩; refine ⟨_, rfl, ?_⟩; have HO451 := Aside0.mk (Kd.R_lower (Kd.R_new' (Kd.R_new' (Kd.R_new' (Kd.R_new' (Kd.R_new' (Kd.R_new' ho0 (Kd.R_lt (kr_ HO420.out))) (Kd.R_lt (kr_ HO424.out))) (Kd.R_lt (kr_ HO428.out))) (Kd.R_lt (kr_ HO432.out))) (Kd.R_lt (kr_ HO443.out))) (Kd.R_lt (kr_ HO447.out))) (below_size (bw_ HB.out))); replace HO420 := Aside0.mk (Kd.R_elder' (kr_ HO420.out) (Kd.R_base ho0) hb); replace HO424 := Aside0.mk (Kd.R_elder' (kr_ HO424.out) (Kd.R_base ho0) hb); replace HO428 := Aside0.mk (Kd.R_elder' (kr_ HO428.out) (Kd.R_base ho0) hb); replace HO432 := Aside0.mk (Kd.R_elder' (kr_ HO432.out) (Kd.R_base ho0) hb); replace HO443 := Aside0.mk (Kd.R_elder' (kr_ HO443.out) (Kd.R_base ho0) hb); replace HO447 := Aside0.mk (Kd.R_elder' (kr_ HO447.out) (Kd.R_base ho0) hb); replace BK434 := kq_ BK434 hb; replace BK435 := kq_ BK435 hb; replace HB := bq_ HB hb; (try clear hb); (try clear hb2); (try clear hk); (try clear hi); (try clear ho0); obtain ⟨Ao35, co35, eo35⟩ := Kd.R_slice HO443.out; subst eo35; obtain ⟨Ao36, co36, eo36⟩ := Kd.R_slice HO447.out; subst eo36; obtain ⟨Ao37, co37, eo37⟩ := Kd.R_slice HO451.out; subst eo37) | ((with_reducible refine gate_dst (N := 31) rfl ?_); refine Kd.N_lit k24 _ 24 ?hg (N' := 31) ?hd (xs := ([(⟨t440, t441⟩ : S24), (⟨t444, t445⟩ : S24), (⟨t448, t449⟩ : S24)] : List (S24))) (inner := [.bool t440, .slice Ao35 t441.length co35, .bool t444, .slice Ao36 t445.length co36, .bool t448, .slice Ao37 t449.length co37]) (ok := (fun k_ => some k_ ≠ (.slice Ao19 t418.length co19 : Value).ownBlock ∧ some k_ ≠ (.slice Ao20 t422.length co20 : Value).ownBlock ∧ some k_ ≠ (.slice Ao26 t426.length co26 : Value).ownBlock ∧ some k_ ≠ (.slice Ao28 t430.length co28 : Value).ownBlock ∧ k_ ≠ gb434 ∧ k_ ≠ gb435)) (okp := (fun k_ => some k_ ≠ (.slice Ao19 t418.length co19 : Value).ownBlock ∧ some k_ ≠ (.slice Ao20 t422.length co20 : Value).ownBlock ∧ some k_ ≠ (.slice Ao26 t426.length co26 : Value).ownBlock ∧ some k_ ≠ (.slice Ao28 t430.length co28 : Value).ownBlock ∧ k_ ≠ gb434 ∧ k_ ≠ gb435)) ?hr ?hp (fun _ hk => hk) ((show ∀ k_, w34.heap.size ≤ k_ → (fun k_ => some k_ ≠ (.slice Ao19 t418.length co19 : Value).ownBlock ∧ some k_ ≠ (.slice Ao20 t422.length co20 : Value).ownBlock ∧ some k_ ≠ (.slice Ao26 t426.length co26 : Value).ownBlock ∧ some k_ ≠ (.slice Ao28 t430.length co28 : Value).ownBlock ∧ k_ ≠ gb434 ∧ k_ ≠ gb435) k_ from fun k_ hk => ⟨Kd.fresh' (Kd.R_lt (kr_ HO420.out)) k_ hk, Kd.fresh' (Kd.R_lt (kr_ HO424.out)) k_ hk, Kd.fresh' (Kd.R_lt (kr_ HO428.out)) k_ hk, Kd.fresh' (Kd.R_lt (kr_ HO432.out)) k_ hk, Kd.freshB (g := gb434) (o := .cells #[.bool t425, .slice Ao26 t426.length co26] 24 (0, 0)) (kb_ BK434.out) k_ hk, Kd.freshB (g := gb435) (o := .cells #[.bool t429, .slice Ao28 t430.length co28] 24 (0, 0)) (kb_ BK435.out) k_ hk⟩) _ (Nat.le_refl _)) (Below.refl _ _) (Nat.le_refl _) (by simp) ?_; (case hd => rfl); (case hg => rfl); (case hr => first | (go_simp; done) | (go_simp; rfl)); (case hp => exact (Reps.c2 (show Kd.FK k24 _ _ (⟨t440, t441⟩ : S24) [.bool t440, .slice Ao35 t441.length co35] from (k24_mkF _ _ (⟨t440, t441⟩ : S24) (Kd.R_reads' (Kd.R_mono (ok' := (fun k_ => some k_ ≠ (.slice Ao19 t418.length co19 : Value).ownBlock ∧ some k_ ≠ (.slice Ao20 t422.length co20 : Value).ownBlock ∧ some k_ ≠ (.slice Ao26 t426.length co26 : Value).ownBlock ∧ some k_ ≠ (.slice Ao28 t430.length co28 : Value).ownBlock ∧ k_ ≠ gb434 ∧ k_ ≠ gb435)) (Kd.R_types (Kd.R_types (HO443.out) BK434.out (by decide)) BK435.out (by decide)) (fun k_ hk => ⟨hk.1.1.1.1.1.1.1.2, ⟨hk.1.1.1.1.1.1.2, ⟨hk.1.1.1.1.1.2, ⟨hk.1.1.1.1.2, ⟨hk.1.2, hk.2⟩⟩⟩⟩⟩))).2.1 (Kd.R_F (Kd.R_mono (ok' := (fun k_ => some k_ ≠ (.slice Ao19 t418.length co19 : Value).ownBlock ∧ some k_ ≠ (.slice Ao20 t422.length co20 : Value).ownBlock ∧ some k_ ≠ (.slice Ao26 t426.length co26 : Value).ownBlock ∧ some k_ ≠ (.slice Ao28 t430.length co28 : Value).ownBlock ∧ k_ ≠ gb434 ∧ k_ ≠ gb435)) (Kd.R_types (Kd.R_types (HO443.out) BK434.out (by decide)) BK435.out (by decide)) (fun k_ hk => ⟨hk.1.1.1.1.1.1.1.2, ⟨hk.1.1.1.1.1.1.2, ⟨hk.1.1.1.1.1.2, ⟨hk.1.1.1.1.2, ⟨hk.1.2, hk.2⟩⟩⟩⟩⟩))))) (Reps.c2 (show Kd.FK k24 _ _ (⟨t444, t445⟩ : S24) [.bool t444, .slice Ao36 t445.length co36] from (k24_mkF _ _ (⟨t444, t445⟩ : S24) (Kd.R_reads' (Kd.R_mono (ok' := (fun k_ => some k_ ≠ (.slice Ao19 t418.length co19 : Value).ownBlock ∧ some k_ ≠ (.slice Ao20 t422.length co20 : Value).ownBlock ∧ some k_ ≠ (.slice Ao26 t426.length co26 : Value).ownBlock ∧ some k_ ≠ (.slice Ao28 t430.length co28 : Value).ownBlock ∧ k_ ≠ gb434 ∧ k_ ≠ gb435)) (Kd.R_types (Kd.R_types (HO447.out) BK434.out (by decide)) BK435.out (by decide)) (fun k_ hk => ⟨hk.1.1.1.1.1.1.1.2, ⟨hk.1.1.1.1.1.1.2, ⟨hk.1.1.1.1.1.2, ⟨hk.1.1.1.1.2, ⟨hk.1.2, hk.2⟩⟩⟩⟩⟩))).2.1 (Kd.R_F (Kd.R_mono (ok' := (fun k_ => some k_ ≠ (.slice Ao19 t418.length co19 : Value).ownBlock ∧ some k_ ≠ (.slice Ao20 t422.length co20 : Value).ownBlock ∧ some k_ ≠ (.slice Ao26 t426.length co26 : Value).ownBlock ∧ some k_ ≠ (.slice Ao28 t430.length co28 : Value).ownBlock ∧ k_ ≠ gb434 ∧ k_ ≠ gb435)) (Kd.R_types (Kd.R_types (HO447.out) BK434.out (by decide)) BK435.out (by decide)) (fun k_ hk => ⟨hk.1.1.1.1.1.1.1.2, ⟨hk.1.1.1.1.1.1.2, ⟨hk.1.1.1.1.1.2, ⟨hk.1.1.1.1.2, ⟨hk.1.2, hk.2⟩⟩⟩⟩⟩))))) (Reps.c2 (show Kd.FK k24 _ _ (⟨t448, t449⟩ : S24) [.bool t448, .slice Ao37 t449.length co37] from (k24_mkF _ _ (⟨t448, t449⟩ : S24) (Kd.R_reads' (Kd.R_mono (ok' := (fun k_ => some k_ ≠ (.slice Ao19 t418.length co19 : Value).ownBlock ∧ some k_ ≠ (.slice Ao20 t422.length co20 : Value).ownBlock ∧ some k_ ≠ (.slice Ao26 t426.length co26 : Value).ownBlock ∧ some k_ ≠ (.slice Ao28 t430.length co28 : Value).ownBlock ∧ k_ ≠ gb434 ∧ k_ ≠ gb435)) (Kd.R_types (Kd.R_types (HO451.out) BK434.out (by decide)) BK435.out (by decide)) (fun k_ hk => ⟨hk.1.1.1.1.1.1.1.2, ⟨hk.1.1.1.1.1.1.2, ⟨hk.1.1.1.1.1.2, ⟨hk.1.1.1.1.2, ⟨hk.1.2, hk.2⟩⟩⟩⟩⟩))).2.1 (Kd.R_F (Kd.R_mono (ok' := (fun k_ => some k_ ≠ (.slice Ao19 t418.length co19 : Value).ownBlock ∧ some k_ ≠ (.slice Ao20 t422.length co20 : Value).ownBlock ∧ some k_ ≠ (.slice Ao26 t426.length co26 : Value).ownBlock ∧ some k_ ≠ (.slice Ao28 t430.length co28 : Value).ownBlock ∧ k_ ≠ gb434 ∧ k_ ≠ gb435)) (Kd.R_types (Kd.R_types (HO451.out) BK434.out (by decide)) BK435.out (by decide)) (fun k_ hk => ⟨hk.1.1.1.1.1.1.1.2, ⟨hk.1.1.1.1.1.1.2, ⟨hk.1.1.1.1.1.2, ⟨hk.1.1.1.1.2, ⟨hk.1.2, hk.2⟩⟩⟩⟩⟩))))) (Reps.none _ _))))); intro v453 w38 ho39 hb hg_ hnew_; clear hg_ hnew_; (first | rw [← Ny452.out] at ho39 | (simp only [Int.reduceToNat] at ho39; rw [← Ny452.out] at ho39)); have HO454 := Aside0.mk (Kd.N_lower ho39 (below_size (bw_ HB.out))); replace HO420 := Aside0.mk (Kd.R_below (kr_ HO420.out) hb); replace HO424 := Aside0.mk (Kd.R_below (kr_ HO424.out) hb); replace HO428 := Aside0.mk (Kd.R_below (kr_ HO428.out) hb); replace HO432 := Aside0.mk (Kd.R_below (kr_ HO432.out) hb); replace BK434 := kq_ BK434 hb; replace BK435 := kq_ BK435 hb; replace HB := bq_ HB hb; clear HO443 HO447 HO451; clear hb ho39; obtain ⟨Ao40, co40, eo40⟩ := Kd.N_slice HO454.out; subst eo40) | ((with_reducible refine gate_callee (f := 14) rfl ?_); refine gl_ (some 32) Try.func14 #[.slice Ao40 y452.length co40] ?_; (with_reducible refine (whole_Mul.calls k _ _ y452 t455 t456 _ ?side1 ?side2 A9.out).mono ?_); (case side1 => exact kc_ (Kd.N_reads' HO454.out).2.2); (case side2 => exact (Kd.N_reads' HO454.out).2.1); rintro e w41 ⟨v457, rfl, ho0, hb⟩; refine ⟨_, rfl, ?_⟩; have n0_ := Aside0.mk (Kd.R_elder' (kr_ HO420.out) (Kd.R_base ho0) hb); have n1_ := Aside0.mk (Kd.R_elder' (kr_ HO424.out) (Kd.R_base ho0) hb); have n2_ := Aside0.mk (Kd.R_elder' (kr_ HO428.out) (Kd.R_base ho0) hb); have n3_ := Aside0.mk (Kd.R_elder' (kr_ HO432.out) (Kd.R_base ho0) hb); have n4_ := Aside0.mk (Kd.N_elder' (by (with_reducible repeat (first | apply Kd.N_alloc | apply Kd.N_drewN | apply Kd.N_drew)); exact HO454.out) (Kd.R_base ho0) hb); have n5_ := Aside0.mk (Kd.R_lower (Kd.R_new' (Kd.R_new' (Kd.R_new' (Kd.R_new' ho0 (Kd.R_lt (kr_ HO420.out))) (Kd.R_lt (kr_ HO424.out))) (Kd.R_lt (kr_ HO428.out))) (Kd.R_lt (kr_ HO432.out))) (below_size (bw_ HB.out))); have n6_ := kq_ BK434 hb; have n7_ := kq_ BK435 hb; have n8_ := bq_ HB hb; clear HO420; clear HO424; clear HO428; clear HO432; clear HO454; clear BK434; clear BK435; clear HB; have HO420 := n0_; have HO424 := n1_; have HO428 := n2_; have HO432 := n3_; have HO454 := n4_; have HO458 := n5_; have BK434 := n6_; have BK435 := n7_; have HB := n8_; clear n0_ n1_ n2_ n3_ n4_ n5_ n6_ n7_ n8_; (try clear hb); (try clear hb2); (try clear hk); (try clear hi); (try clear ho0); obtain ⟨Ao42, co42, eo42⟩ := Kd.R_slice HO458.out; subst eo42) | ((with_reducible refine gate_callee (f := 17) rfl ?_); refine gl_ (some 33) Try.func17 #[.agg #[.bool t455, .slice Ao42 t456.length co42]] ?_; (with_reducible refine (whole_Int.calls k t455 _ _ t456 t459 t460 _ ?side1 ?side2 A10.out).mono ?_); (case side1 => exact kc_ (Kd.R_reads' HO458.out).2.2); (case side2 => exact (Kd.R_reads' HO458.out).2.1); rintro e w43 ⟨rfl, hb⟩; refine ⟨_, rfl, ?_⟩; have n0_ := Aside0.mk (Kd.R_below (kr_ HO420.out) hb); have n1_ := Aside0.mk (Kd.R_below (kr_ HO424.out) hb); have n2_ := Aside0.mk (Kd.R_below (kr_ HO428.out) hb); have n3_ := Aside0.mk (Kd.R_below (kr_ HO432.out) hb); have n4_ := Aside0.mk (Kd.N_below (by (with_reducible repeat (first | apply Kd.N_alloc | apply Kd.N_drewN | apply Kd.N_drew)); exact HO454.out) hb); have n5_ := Aside0.mk (Kd.R_below (kr_ HO458.out) hb); have n6_ := kq_ BK434 hb; have n7_ := kq_ BK435 hb; have n8_ := bq_ HB hb; clear HO420; clear HO424; clear HO428; clear HO432; clear HO454; clear HO458; clear BK434; clear BK435; clear HB; have HO420 := n0_; have HO424 := n1_; have HO428 := n2_; have HO432 := n3_; have HO454 := n4_; have HO458 := n5_; have BK434 := n6_; have BK435 := n7_; have HB := n8_; clear n0_ n1_ n2_ n3_ n4_ n5_ n6_ n7_ n8_; (try clear hb); (try clear hb2); (try clear hk); (try clear hi)))
       go_ret
       exact ⟨rf_, bw_ HB.out⟩
      ·rw [if_neg c16] at H
       have c16b0 : (t459 == (-24)) = false := beq_eq_false_iff_ne.mpr c16
       have c16b1 : (t459 != (-24)) = true := bne_iff_ne.mpr c16
       exact absurd ((Option.some.inj H).trans HRT_.out) (by simp)
     ·replace c15 := Bool.eq_false_iff.mpr c15
      subst c15
      have H1 : (some false) = some r := by rw [if_neg (show ¬ (false = true) by decide)] at H; exact H
      clear H
      have H := H1
      clear H1
      exact absurd ((Option.some.inj H).trans HRT_.out) (by simp)
    ·rw [if_neg c14] at H
     have c14b0 : (t438 == 1) = false := beq_eq_false_iff_ne.mpr c14
     have c14b1 : (t438 != 1) = true := bne_iff_ne.mpr c14
     exact absurd ((Option.some.inj H).trans HRT_.out) (by simp)
   ·replace c13 := Bool.eq_false_iff.mpr c13
    subst c13
    have H1 : (some false) = some r := by rw [if_neg (show ¬ (false = true) by decide)] at H; exact H
    clear H
    have H := H1
    clear H1
    exact absurd ((Option.some.inj H).trans HRT_.out) (by simp)
  ·rw [if_neg c12] at H
   have c12b0 : (t436 == (-4)) = false := beq_eq_false_iff_ne.mpr c12
   have c12b1 : (t436 != (-4)) = true := bne_iff_ne.mpr c12
   exact absurd ((Option.some.inj H).trans HRT_.out) (by simp)
 ·replace c11 := Bool.eq_false_iff.mpr c11
  subst c11
  have H1 : (some false) = some r := by rw [if_neg (show ¬ (false = true) by decide)] at H; exact H
  clear H
  have H := H1
  clear H1
  exact absurd ((Option.some.inj H).trans HRT_.out) (by simp)

end Go.Proofs.Ytbejmpocgnldnaa.PZ
