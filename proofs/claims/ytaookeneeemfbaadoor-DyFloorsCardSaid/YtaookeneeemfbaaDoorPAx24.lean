-- Laid by this work's own program; Lean checks it.
import Derived.Test.YtaookeneeemfbaaDoorPAx0
import Derived.Test.YtaookeneeemfbaaDoorPAx1
import Derived.Test.YtaookeneeemfbaaDoorPAx3
import Derived.Test.YtaookeneeemfbaaDoorPAx5
import Derived.Test.YtaookeneeemfbaaDoorPAx7
import Derived.Test.YtaookeneeemfbaaDoorPAx9
import Derived.Test.YtaookeneeemfbaaDoorPAx16
import Derived.Test.YtaookeneeemfbaaDoorPAx21
namespace Go.Proofs.YtaookeneeemfbaaDoor.PA
open Go.RowKit Go.Proofs.YtaookeneeemfbaaDoorW.PrintWords Go.Proofs.YtaookeneeemfbaaDoorW.PrintLast Go.Proofs.YtaookeneeemfbaaDoorW.PrintMore
attribute [local go_sem] max2_int min2_int max_two min_two max_three min_three max_four min_four   -- for this text's walks alone
set_option linter.unusedVariables false
set_option linter.unusedSimpArgs false

attribute [local go_sem ↓ high] isSome_set_
/-! ### peloruslaw03_DyFloors: function 5 -/
theorem peloruslaw03_DyFloors.tab9 : rtab .any (opsOf Tryd.f5 9) = peloruslaw03_DyFloors.T9 := by kernel_rfl
theorem peloruslaw03_DyFloors.bits9 : waitsOk peloruslaw03_DyFloors.T9.2 peloruslaw03_DyFloors.B9 = true := by kernel_rfl
set_option maxHeartbeats 8000000 in
set_option maxRecDepth 100000 in
theorem peloruslaw03_DyFloors.calls (k : Nat) (a0_0 : Bool) (A0_1 : Option Addr) (c0_1 : Nat) (l0_1 : List Int) (a0_2 : Int) (a1_0 : Bool) (A1_1 : Option Addr) (c1_1 : Nat) (l1_1 : List Int) (r : Bool) (w : World) (hr0_1 : Kd.C (Kd.int .u32) w A0_1 l0_1.length l0_1) (hc0_1 : l0_1.length ≤ c0_1) (hr1_1 : Kd.C (Kd.int .u32) w A1_1 l1_1.length l1_1) (hc1_1 : l1_1.length ≤ c1_1) (hr_ : r = true) (haw_ : ∀ r, peloruslaw03_awake.f k = some r → r = true) (h : peloruslaw03_DyFloors.f k a0_0 l0_1 a0_2 a1_0 l1_1 = some r) (htab_ : Kd.C (Kd.int .u8) w (some ⟨0, 0, none⟩) 32 tz32tab) :
  Calls Tryd.prog 5 #[.agg #[.bool a0_0, .slice A0_1 l0_1.length c0_1, .int .i64 a0_2], .agg #[.bool a1_0, .slice A1_1 l1_1.length c1_1]] w fun e w' => e = .returned (.bool r) ∧ Below w.heap.size w w' := by
 have HTAB := Aside0.mk htab_
 clear htab_
 have HRT_ := Aside0.mk hr_
 clear hr_
 have HAW_ := Aside0.mk haw_
 clear haw_
 have hu27 := Tryd.underlying27
 have hu24 := Tryd.underlying24
 have HR0_1 := Aside0.mk hr0_1
 have HC0_1 := Aside0.mk hc0_1
 clear hr0_1 hc0_1
 have HR1_1 := Aside0.mk hr1_1
 have HC1_1 := Aside0.mk hc1_1
 clear hr1_1 hc1_1
 have HB := Aside0.mk (Below.refl w.heap.size w)
 have H : ((peloruslaw03_awake.f k).bind fun t742 => ((peloruslaw03_Few.f a0_0 l0_1 a0_2).bind fun t743 => ((peloruslaw02_Few.f a1_0 l1_1).bind fun t744 => (if t742 = true then (if t743 = true then (peloruslaw03_DyFloors.j0 k t742 (!t744) a0_0 l0_1 a0_2 a1_0 l1_1) else (peloruslaw03_DyFloors.j0 k t742 true a0_0 l0_1 a0_2 a1_0 l1_1)) else (peloruslaw03_DyFloors.j0 k t742 true a0_0 l0_1 a0_2 a1_0 l1_1))))) = some r := h
 clear h
 replace H := Option.bind_eq_some_iff.mp H
 obtain ⟨t742, A30, H⟩ := H
 (try dsimp only at H)
 have A3 := Aside0.mk A30
 clear A30
 replace H := Option.bind_eq_some_iff.mp H
 obtain ⟨t743, A40, H⟩ := H
 (try dsimp only at H)
 have A4 := Aside0.mk A40
 clear A40
 replace H := Option.bind_eq_some_iff.mp H
 obtain ⟨t744, A50, H⟩ := H
 (try dsimp only at H)
 have A5 := Aside0.mk A50
 clear A50
 have HC6 := Aside0.mk H
 clear H
 go_enter Tryd.func5, Tryd.ntmps5
 go_upto_region 4 with (first | ((with_reducible refine gate_dst (N := 2) rfl ?_); refine bx_ 2 #[.bool a0_0, .slice A0_1 l0_1.length c0_1, .int .i64 a0_2] 27 ?_; intro gb740 hg w7 hbox hb; have BK740 := Aside0.mk (hbox); have GW740 := ge_ hg HB; have GE740 := ge_ hg HB; replace HB := bq_ HB hb; clear hb hbox hg) | ((with_reducible refine gate_dst (N := 3) rfl ?_); refine bx_ 3 #[.bool a1_0, .slice A1_1 l1_1.length c1_1] 24 ?_; intro gb741 hg w8 hbox hb; have BK741 := Aside0.mk (hbox); have GW741 := ge_ hg HB; have GE741 := ge_ hg HB; have NB740_741 := nb_ hg BK740; have NB741_740 := nc_ hg BK740; replace BK740 := kq_ BK740 hb; replace HB := bq_ HB hb; clear hb hbox hg) | ((with_reducible refine gate_callee (f := 9) rfl ?_); refine gl_ (some 11) Tryd.func9 #[] ?_; (with_reducible refine (peloruslaw03_awake.calls k  t742 _ (HAW_.out _ A3.out) A3.out ?sidet).mono ?_); (case sidet => exact Kd.C_below HTAB.out (bw_ HB.out)); rintro e w9 ⟨rfl, hb⟩; refine ⟨_, rfl, ?_⟩; replace BK740 := kq_ BK740 hb; replace BK741 := kq_ BK741 hb; replace HB := bq_ HB hb; (try clear hb); (try clear hb2); (try clear hk); (try clear hi); have hnb10 := NB740_741.out; have hnc10 := NB741_740.out; obtain ⟨hcz11_0, hcz11_1, hcz11_2, hfz11_0, hfz11_1, hfz11_2⟩ := c3_ BK740) | ((with_reducible refine gate_callee (f := 19) rfl ?_); refine gl_ (some 13) Tryd.func19 #[.agg #[.bool a0_0, .slice A0_1 l0_1.length c0_1, .int .i64 a0_2]] ?_; (with_reducible refine (peloruslaw03_Few.calls a0_0 _ _ l0_1 a0_2 t743 _ ?side1 ?side2 A4.out).mono ?_); (case side1 => exact kc_ (Kd.C_below HR0_1.out HB.out)); (case side2 => exact HC0_1.out); rintro e w12 ⟨rfl, hb⟩; refine ⟨_, rfl, ?_⟩; replace BK740 := kq_ BK740 hb; replace BK741 := kq_ BK741 hb; replace HB := bq_ HB hb; (try clear hb); (try clear hb2); (try clear hk); (try clear hi); obtain ⟨hcz13_0, hcz13_1, hfz13_0, hfz13_1⟩ := c2_ BK741) | ((with_reducible refine gate_callee (f := 22) rfl ?_); refine gl_ (some 15) Tryd.func22 #[.agg #[.bool a1_0, .slice A1_1 l1_1.length c1_1]] ?_; (with_reducible refine (peloruslaw02_Few.calls a1_0 _ _ l1_1 t744 _ ?side1 ?side2 A5.out).mono ?_); (case side1 => exact kc_ (Kd.C_below HR1_1.out HB.out)); (case side2 => exact HC1_1.out); rintro e w14 ⟨rfl, hb⟩; refine ⟨_, rfl, ?_⟩; replace BK740 := kq_ BK740 hb; replace BK741 := kq_ BK741 hb; replace HB := bq_ HB hb; (try clear hb); (try clear hb2); (try clear hk); (try clear hi)))
 (try simp only [Act.put, List.setIfInBounds_toArray, List.set_cons_zero, List.set_cons_succ])
 go_cut [25] (fun v25 wc => ∃ (kq : Nat) (x25_5 : Bool), v25 = .bool x25_5 ∧ Aside0 (peloruslaw03_DyFloors.j0 kq t742 x25_5 a0_0 l0_1 a0_2 a1_0 l1_1 = some r) ∧ Aside0 (kq ≤ k) ∧ Aside0 (wc.heap[gb740]? = some (.cells #[.bool a0_0, (.slice A0_1 l0_1.length c0_1), .int .i64 a0_2] 27 (0, 0))) ∧ Aside0 (wc.heap[gb741]? = some (.cells #[.bool a1_0, (.slice A1_1 l1_1.length c1_1)] 24 (0, 0))) ∧ Aside0 (Below w.heap.size w wc))
 case first =>
  have H := HC6.out
  clear HC6
  by_cases c15 : t742 = true
  ·subst c15
   have H1 : (if t743 = true then (peloruslaw03_DyFloors.j0 k true (!t744) a0_0 l0_1 a0_2 a1_0 l1_1) else (peloruslaw03_DyFloors.j0 k true true a0_0 l0_1 a0_2 a1_0 l1_1)) = some r := by rw [if_pos rfl] at H; exact H
   clear H
   have H := H1
   clear H1
   by_cases c16 : t743 = true
   ·subst c16
    have H1 : (peloruslaw03_DyFloors.j0 k true (!t744) a0_0 l0_1 a0_2 a1_0 l1_1) = some r := by rw [if_pos rfl] at H; exact H
    clear H
    have H := H1
    clear H1
    have H' := Aside0.mk H
    clear H
    go_wp2
    go_meet
    case rel => exact ⟨_, (!t744), (by first | rfl | (simp; done) | (simp [*]; done)), H', ⟨by first | omega | exact Nat.le_refl _⟩, ⟨kb_ BK740.out⟩, ⟨kb_ BK741.out⟩, ⟨bw_ HB.out⟩⟩
   ·replace c16 := Bool.eq_false_iff.mpr c16
    subst c16
    have H1 : (peloruslaw03_DyFloors.j0 k true true a0_0 l0_1 a0_2 a1_0 l1_1) = some r := by rw [if_neg (show ¬ (false = true) by decide)] at H; exact H
    clear H
    have H := H1
    clear H1
    have H' := Aside0.mk H
    clear H
    go_wp2
    go_meet
    case rel => exact ⟨_, (true), (by first | rfl | (simp; done) | (simp [*]; done)), H', ⟨by first | omega | exact Nat.le_refl _⟩, ⟨kb_ BK740.out⟩, ⟨kb_ BK741.out⟩, ⟨bw_ HB.out⟩⟩
  ·replace c15 := Bool.eq_false_iff.mpr c15
   subst c15
   have H1 : (peloruslaw03_DyFloors.j0 k false true a0_0 l0_1 a0_2 a1_0 l1_1) = some r := by rw [if_neg (show ¬ (false = true) by decide)] at H; exact H
   clear H
   have H := H1
   clear H1
   have H' := Aside0.mk H
   clear H
   go_wp2
   go_meet
   case rel => exact ⟨_, (true), (by first | rfl | (simp; done) | (simp [*]; done)), H', ⟨by first | omega | exact Nat.le_refl _⟩, ⟨kb_ BK740.out⟩, ⟨kb_ BK741.out⟩, ⟨bw_ HB.out⟩⟩
 case rest =>
  clear HC6
  try clear c1
  try clear c2
  try clear p2
  try clear c5
  try clear c9
  try clear c10
  try clear c15
  try clear c16
  try clear hcz11_0 hcz11_1 hcz11_2
  try clear hcz13_0 hcz13_1
  try clear hfz11_0 hfz11_1 hfz11_2
  try clear hfz13_0 hfz13_1
  obtain ⟨kq, x25_5, rfl, HA, HJ5, BK740, BK741, HB⟩ := hcut
  cases kq with
  | zero => exact absurd HA.out (by simp [peloruslaw03_DyFloors.j0])
  | succ kj5 =>
   have H := HA.out
   clear HA
   simp only [peloruslaw03_DyFloors.j0] at H
   by_cases c17 : x25_5 = true
   ·subst c17
    have H1 : (some t742) = some r := by rw [if_pos rfl] at H; exact H
    clear H
    have H := H1
    clear H1
    obtain rfl := Option.some.inj H
    go_wp2
    go_ret
    exact ⟨rf_, bw_ HB.out⟩
   ·replace c17 := Bool.eq_false_iff.mpr c17
    subst c17
    have H1 : ((dy_Floor.f kj5 a0_0 l0_1 a0_2).bind fun bt745 => ((dy_Make.f kj5 bt745.1 bt745.2 0).bind fun bt750 => ((whole_From.f kj5 1).bind fun bt756 => ((whole_Add.f kj5 bt745.1 bt745.2 bt756.1 bt756.2).bind fun bt760 => ((dy_Make.f kj5 bt760.1 bt760.2 0).bind fun bt764 => ((dy_Cmp.f kj5 bt750.1 bt750.2.1 bt750.2.2 a0_0 l0_1 a0_2).bind fun t770 => (if t770 ≤ 0 then ((dy_Cmp.f kj5 bt764.1 bt764.2.1 bt764.2.2 a0_0 l0_1 a0_2).bind fun t771 => (if t771 > 0 then ((dy_Make.f kj5 a1_0 l1_1 0).bind fun bt772 => ((dy_Floor.f kj5 bt772.1 bt772.2.1 bt772.2.2).bind fun bt777 => ((whole_Same.f kj5 bt777.1 bt777.2 a1_0 l1_1).bind fun t781 => (some t781)))) else (some false))) else (some false)))))))) = some r := by rw [if_neg (show ¬ (false = true) by decide)] at H; exact H
    clear H
    have H := H1
    clear H1
    replace H := Option.bind_eq_some_iff.mp H
    obtain ⟨⟨t745, t746⟩, A180, H⟩ := H
    (try dsimp only at H)
    have A18 := Aside0.mk A180
    clear A180
    replace H := Option.bind_eq_some_iff.mp H
    obtain ⟨⟨t750, t751, t754⟩, A190, H⟩ := H
    (try dsimp only at H)
    have A19 := Aside0.mk A190
    clear A190
    replace H := Option.bind_eq_some_iff.mp H
    obtain ⟨⟨t756, t757⟩, A200, H⟩ := H
    (try dsimp only at H)
    have A20 := Aside0.mk A200
    clear A200
    replace H := Option.bind_eq_some_iff.mp H
    obtain ⟨⟨t760, t761⟩, A210, H⟩ := H
    (try dsimp only at H)
    have A21 := Aside0.mk A210
    clear A210
    replace H := Option.bind_eq_some_iff.mp H
    obtain ⟨⟨t764, t765, t768⟩, A220, H⟩ := H
    (try dsimp only at H)
    have A22 := Aside0.mk A220
    clear A220
    replace H := Option.bind_eq_some_iff.mp H
    obtain ⟨t770, A230, H⟩ := H
    (try dsimp only at H)
    have A23 := Aside0.mk A230
    clear A230
    by_cases c24 : t770 ≤ 0
    ·rw [if_pos c24] at H
     have c24b0 : decide (t770 ≤ 0) = true := decide_eq_true c24
     clear c24
     replace H := Option.bind_eq_some_iff.mp H
     obtain ⟨t771, A250, H⟩ := H
     (try dsimp only at H)
     have A25 := Aside0.mk A250
     clear A250
     by_cases c26 : t771 > 0
     ·rw [if_pos c26] at H
      have c26b0 : decide (0 < t771) = true := decide_eq_true c26
      clear c26
      replace H := Option.bind_eq_some_iff.mp H
      obtain ⟨⟨t772, t773, t776⟩, A270, H⟩ := H
      (try dsimp only at H)
      have A27 := Aside0.mk A270
      clear A270
      replace H := Option.bind_eq_some_iff.mp H
      obtain ⟨⟨t777, t778⟩, A280, H⟩ := H
      (try dsimp only at H)
      have A28 := Aside0.mk A280
      clear A280
      replace H := Option.bind_eq_some_iff.mp H
      obtain ⟨t781, A290, H⟩ := H
      (try dsimp only at H)
      have A29 := Aside0.mk A290
      clear A290
      obtain rfl := Option.some.inj H
      have hnb30 := NB740_741.out
      have hnc30 := NB741_740.out
      obtain ⟨hcz31_0, hcz31_1, hcz31_2, hfz31_0, hfz31_1, hfz31_2⟩ := c3_ BK740
      try go_wp2_with (first | ((with_reducible refine gate_callee (f := 23) rfl ?_); refine gl_ (some 28) Tryd.func23 #[.agg #[.bool a0_0, .slice A0_1 l0_1.length c0_1, .int .i64 a0_2]] ?_; (with_reducible refine (dy_Floor.calls kj5 a0_0 _ _ l0_1 a0_2 t745 t746 _ ?side1 ?side2 A18.out ?sidet).mono ?_); (case sidet => exact Kd.C_below HTAB.out (bw_ HB.out)); (case side1 => exact kc_ (Kd.C_below HR0_1.out HB.out)); (case side2 => exact HC0_1.out); rintro e w32 ⟨v747, rfl, ho0, hb⟩; refine ⟨_, rfl, ?_⟩; have HO748 := Aside0.mk (Kd.R_lower ho0 (below_size (bw_ HB.out))); replace BK740 := kq_ BK740 hb; replace BK741 := kq_ BK741 hb; replace HB := bq_ HB hb; (try clear hb); (try clear hb2); (try clear hk); (try clear hi); (try clear ho0)) | ((with_reducible refine gate_dst (N := 8) rfl ?_); refine bx_ 8 #[.bool false, .slice none 0 0] 24 ?_; intro gb749 hg w33 hbox hb; have BK749 := Aside0.mk (hbox); have GW749 := ge_ hg HB; have GE749 := ge_ hg HB; have NB740_749 := nb_ hg BK740; have NB749_740 := nc_ hg BK740; have NB741_749 := nb_ hg BK741; have NB749_741 := nc_ hg BK741; replace HO748 := Aside0.mk (Kd.R_below (kr_ HO748.out) hb); replace BK740 := kq_ BK740 hb; replace BK741 := kq_ BK741 hb; replace HB := bq_ HB hb; clear hb hbox hg; have hnb34 := NB749_740.out; have hnc34 := NB740_749.out; have hnb35 := NB749_741.out; have hnc35 := NB741_749.out; obtain ⟨hcz36_0, hcz36_1, hfz36_0, hfz36_1⟩ := c2_ BK749; obtain ⟨Ao37, co37, eo37⟩ := Kd.R_slice HO748.out; subst eo37) | ((with_reducible refine gate_callee (f := 10) rfl ?_); refine gl_ (some 30) Tryd.func10 #[.agg #[.bool t745, .slice Ao37 t746.length co37], .int .i64 0] ?_; (with_reducible refine (dy_Make.calls kj5 t745 _ _ t746 0 t750 t751 t754 _ ?side1 ?side2 A19.out ?sidet).mono ?_); (case sidet => exact Kd.C_below HTAB.out (bw_ HB.out)); (case side1 => refine (Kd.R_reads' (e := 51) (base := w.heap.size) (ok := fun k_ => True) (n := t746.length) (c := co37) ?_).2.2; exact (kr_ ((Kd.R_mono (Kd.R_far (p := ⟨gb749, 1, none⟩) (Kd.R_far (p := ⟨gb749, 0, none⟩) (Kd.R_types HO748.out BK749.out (by decide)) (fun _ hk => hk.2) (.bool t745)) (fun _ hk => hk.2) (.slice Ao37 t746.length co37)) (fun _ h_ => h_.1))))); (case side2 => exact (Kd.R_reads' HO748.out).2.1); rintro e w38 ⟨v752, rfl, ho0, hb⟩; refine ⟨_, rfl, ?_⟩; have n0_ := Aside0.mk (Kd.R_elder' (kr_ ((Kd.R_mono (Kd.R_far (p := ⟨gb749, 1, none⟩) (Kd.R_far (p := ⟨gb749, 0, none⟩) (Kd.R_types HO748.out BK749.out (by decide)) (fun _ hk => hk.2) (.bool t745)) (fun _ hk => hk.2) (.slice Ao37 t746.length co37)) (fun _ h_ => h_.1)))) (Kd.R_base ho0) hb); have n1_ := Aside0.mk (Kd.R_lower (Kd.R_new' ho0 (Kd.R_lt (kr_ ((Kd.R_mono (Kd.R_far (p := ⟨gb749, 1, none⟩) (Kd.R_far (p := ⟨gb749, 0, none⟩) (Kd.R_types HO748.out BK749.out (by decide)) (fun _ hk => hk.2) (.bool t745)) (fun _ hk => hk.2) (.slice Ao37 t746.length co37)) (fun _ h_ => h_.1)))))) (below_size (bw_ HB.out))); have n2_ := Aside0.mk (blk_below (g := gb740) (o := .cells #[.bool a0_0, .slice A0_1 l0_1.length c0_1, .int .i64 a0_2] 27 (0, 0)) (by refine kb_ ?_; refine bf_ NB740_749 ?_; refine bf_ NB740_749 ?_; exact BK740.out) hb); have n3_ := Aside0.mk (blk_below (g := gb741) (o := .cells #[.bool a1_0, .slice A1_1 l1_1.length c1_1] 24 (0, 0)) (by refine kb_ ?_; refine bf_ NB741_749 ?_; refine bf_ NB741_749 ?_; exact BK741.out) hb); have n4_ := Aside0.mk (blk_below (g := gb749) (o := .cells #[.bool t745, .slice Ao37 t746.length co37] 24 (0, 0)) (by refine kb_ ?_; refine bp_ #[.bool t745, .slice none 0 0] 1 ?_; refine bp_ #[.bool false, .slice none 0 0] 0 ?_; exact BK749.out) hb); have n5_ := bq_ HB hb; clear HO748; clear BK740; clear BK741; clear BK749; clear HB; have HO748 := n0_; have HO753 := n1_; have BK740 := n2_; have BK741 := n3_; have BK749 := n4_; have HB := n5_; clear n0_ n1_ n2_ n3_ n4_ n5_; (try clear hb); (try clear hb2); (try clear hk); (try clear hi); (try clear ho0)) | ((with_reducible refine gate_dst (N := 9) rfl ?_); refine bx_ 9 #[.bool false, .slice none 0 0, .int .i64 0] 27 ?_; intro gb755 hg w39 hbox hb; have BK755 := Aside0.mk (hbox); have GW755 := ge_ hg HB; have GE755 := ge_ hg HB; have NB740_755 := nb_ hg BK740; have NB755_740 := nc_ hg BK740; have NB741_755 := nb_ hg BK741; have NB755_741 := nc_ hg BK741; have NB749_755 := nb_ hg BK749; have NB755_749 := nc_ hg BK749; replace HO748 := Aside0.mk (Kd.R_below (kr_ HO748.out) hb); replace HO753 := Aside0.mk (Kd.R_below (kr_ HO753.out) hb); replace BK740 := kq_ BK740 hb; replace BK741 := kq_ BK741 hb; replace BK749 := kq_ BK749 hb; replace HB := bq_ HB hb; clear hb hbox hg; have hnb40 := NB755_740.out; have hnc40 := NB740_755.out; have hnb41 := NB755_741.out; have hnc41 := NB741_755.out; have hnb42 := NB755_749.out; have hnc42 := NB749_755.out; obtain ⟨hcz43_0, hcz43_1, hcz43_2, hfz43_0, hfz43_1, hfz43_2⟩ := c3_ BK755; obtain ⟨Ao44, co44, eo44⟩ := Kd.R_slice HO753.out; subst eo44))
      have n0_ : Aside0 (Kd.R (Kd.int .u32) 51 (((w39.setCell ⟨gb755, 0, none⟩ (.bool t750)).setCell ⟨gb755, 1, none⟩ (.slice Ao44 t751.length co44)).setCell ⟨gb755, 2, none⟩ (.int .i64 t754)) w.heap.size (fun k_ => some k_ ≠ (.slice Ao44 t751.length co44 : Value).ownBlock) (.slice Ao37 t746.length co37) t746) := ⟨by (with_reducible repeat (first | apply Kd.R_alloc | apply Kd.R_drewN | apply Kd.R_drew)); exact Kd.R_mono (Kd.R_far (p := ⟨gb755, 2, none⟩) (Kd.R_far (p := ⟨gb755, 1, none⟩) (Kd.R_far (p := ⟨gb755, 0, none⟩) (Kd.R_types HO748.out BK755.out (by decide)) (fun _ hk => hk.2) (.bool t750)) (fun _ hk => hk.2) (.slice Ao44 t751.length co44)) (fun _ hk => hk.2) (.int .i64 t754)) (fun _ hk => hk.1.2)⟩
      have n1_ : Aside0 (Kd.R (Kd.int .u32) 51 (((w39.setCell ⟨gb755, 0, none⟩ (.bool t750)).setCell ⟨gb755, 1, none⟩ (.slice Ao44 t751.length co44)).setCell ⟨gb755, 2, none⟩ (.int .i64 t754)) w.heap.size (fun k_ => some k_ ≠ (.slice Ao37 t746.length co37 : Value).ownBlock) (.slice Ao44 t751.length co44) t751) := ⟨by (with_reducible repeat (first | apply Kd.R_alloc | apply Kd.R_drewN | apply Kd.R_drew)); exact Kd.R_mono (Kd.R_far (p := ⟨gb755, 2, none⟩) (Kd.R_far (p := ⟨gb755, 1, none⟩) (Kd.R_far (p := ⟨gb755, 0, none⟩) (Kd.R_types HO753.out BK755.out (by decide)) (fun _ hk => hk.2) (.bool t750)) (fun _ hk => hk.2) (.slice Ao44 t751.length co44)) (fun _ hk => hk.2) (.int .i64 t754)) (fun _ hk => hk.1.2)⟩
      have n2_ : Aside0 ((((w39.setCell ⟨gb755, 0, none⟩ (.bool t750)).setCell ⟨gb755, 1, none⟩ (.slice Ao44 t751.length co44)).setCell ⟨gb755, 2, none⟩ (.int .i64 t754)).heap[gb740]? = some (.cells #[.bool a0_0, .slice A0_1 l0_1.length c0_1, .int .i64 a0_2] 27 (0, 0))) := ⟨by refine kb_ ?_; refine bf_ NB740_755 ?_; refine bf_ NB740_755 ?_; refine bf_ NB740_755 ?_; exact BK740.out⟩
      have n3_ : Aside0 ((((w39.setCell ⟨gb755, 0, none⟩ (.bool t750)).setCell ⟨gb755, 1, none⟩ (.slice Ao44 t751.length co44)).setCell ⟨gb755, 2, none⟩ (.int .i64 t754)).heap[gb741]? = some (.cells #[.bool a1_0, .slice A1_1 l1_1.length c1_1] 24 (0, 0))) := ⟨by refine kb_ ?_; refine bf_ NB741_755 ?_; refine bf_ NB741_755 ?_; refine bf_ NB741_755 ?_; exact BK741.out⟩
      have n4_ : Aside0 ((((w39.setCell ⟨gb755, 0, none⟩ (.bool t750)).setCell ⟨gb755, 1, none⟩ (.slice Ao44 t751.length co44)).setCell ⟨gb755, 2, none⟩ (.int .i64 t754)).heap[gb749]? = some (.cells #[.bool t745, .slice Ao37 t746.length co37] 24 (0, 0))) := ⟨by refine kb_ ?_; refine bf_ NB749_755 ?_; refine bf_ NB749_755 ?_; refine bf_ NB749_755 ?_; exact BK749.out⟩
      have n5_ : Aside0 ((((w39.setCell ⟨gb755, 0, none⟩ (.bool t750)).setCell ⟨gb755, 1, none⟩ (.slice Ao44 t751.length co44)).setCell ⟨gb755, 2, none⟩ (.int .i64 t754)).heap[gb755]? = some (.cells #[.bool t750, .slice Ao44 t751.length co44, .int .i64 t754] 27 (0, 0))) := ⟨by refine kb_ ?_; refine bp_ #[.bool t750, .slice Ao44 t751.length co44, .int .i64 0] 2 ?_; refine bp_ #[.bool t750, .slice none 0 0, .int .i64 0] 1 ?_; refine bp_ #[.bool false, .slice none 0 0, .int .i64 0] 0 ?_; exact BK755.out⟩
      have n6_ : Aside0 (Below w.heap.size w (((w39.setCell ⟨gb755, 0, none⟩ (.bool t750)).setCell ⟨gb755, 1, none⟩ (.slice Ao44 t751.length co44)).setCell ⟨gb755, 2, none⟩ (.int .i64 t754))) := ⟨bw_ HB.out⟩
      (try clear HO748)
      (try clear HO753)
      (try clear BK740)
      (try clear BK741)
      (try clear BK749)
      (try clear BK755)
      (try clear HB)
      generalize (((w39.setCell ⟨gb755, 0, none⟩ (.bool t750)).setCell ⟨gb755, 1, none⟩ (.slice Ao44 t751.length co44)).setCell ⟨gb755, 2, none⟩ (.int .i64 t754)) = w45 at n0_ n1_ n2_ n3_ n4_ n5_ n6_ ⊢
      have HO748 := n0_
      have HO753 := n1_
      have BK740 := n2_
      have BK741 := n3_
      have BK749 := n4_
      have BK755 := n5_
      have HB := n6_
      clear n0_ n1_ n2_ n3_ n4_ n5_ n6_
      replace HO748 := Aside0.mk (Kd.R_drew HO748.out)
      replace HO753 := Aside0.mk (Kd.R_drew HO753.out)
      replace BK740 := Aside0.mk (blk_drew BK740.out)
      replace BK741 := Aside0.mk (blk_drew BK741.out)
      replace BK749 := Aside0.mk (blk_drew BK749.out)
      replace BK755 := Aside0.mk (blk_drew BK755.out)
      replace HB := Aside0.mk (below_drew1 HB.out)
      refine start_ (n := 6) (S := fun w' => w'.cell? ⟨gb749, 0, none⟩ = some (.bool t745) ∧ w'.cell? ⟨gb749, 1, none⟩ = some (.slice Ao37 t746.length co37)) (ds := []) #[false, false, false, false, false, false] (by kernel_rfl) rfl rfl ⟨(blk_cell BK749.out 0).trans rfl, (blk_cell BK749.out 1).trans rfl⟩ (fun hHeld => ?_)
      generalize w45.drew = w46 at HO748 HO753 BK740 BK741 BK749 BK755 HB hHeld ⊢
      refine take_ (i := 0) (N := some 31) (v := ?_) (a' := ?_) #[true, false, false, false, false, false] rfl rfl (by kernel_rfl) (fun _ _ _ h => h) (Or.inl ⟨by rfl, ?_⟩) hHeld ?_ ?_
      rotate_left
      ·rintro w' ⟨s0, s1⟩
       go_simp
       with_reducible rfl
      rotate_left
      ·exact pt_
      refine join_ (σ := Value × Value × Value × Nat) 1 #[true, true, true, true, true, false] (fun s_ => [(32, .agg #[.bool t756, s_.1]), (33, .agg #[.bool t760, s_.2.1]), (34, .agg #[.bool t764, s_.2.2.1, .int .i64 t768]), (10, .pointer (some ⟨s_.2.2.2, 0, none⟩))]) (fun s_ w' => (w'.cell? ⟨gb749, 0, none⟩ = some (.bool t745) ∧ w'.cell? ⟨gb749, 1, none⟩ = some (.slice Ao37 t746.length co37)) ∧ (Kd.R (Kd.int .u32) 51 w' w.heap.size (fun k_ => some k_ ≠ (.slice Ao44 t751.length co44 : Value).ownBlock ∧ some k_ ≠ (s_.1 : Value).ownBlock ∧ some k_ ≠ (s_.2.1 : Value).ownBlock ∧ some k_ ≠ (s_.2.2.1 : Value).ownBlock) (.slice Ao37 t746.length co37) t746) ∧ (Kd.R (Kd.int .u32) 51 w' w.heap.size (fun k_ => some k_ ≠ (.slice Ao37 t746.length co37 : Value).ownBlock ∧ some k_ ≠ (s_.1 : Value).ownBlock ∧ some k_ ≠ (s_.2.1 : Value).ownBlock ∧ some k_ ≠ (s_.2.2.1 : Value).ownBlock) (.slice Ao44 t751.length co44) t751) ∧ (Kd.R (Kd.int .u32) 51 w' w.heap.size (fun k_ => some k_ ≠ (.slice Ao37 t746.length co37 : Value).ownBlock ∧ some k_ ≠ (.slice Ao44 t751.length co44 : Value).ownBlock ∧ some k_ ≠ (s_.2.1 : Value).ownBlock ∧ some k_ ≠ (s_.2.2.1 : Value).ownBlock) s_.1 t757) ∧ (Kd.R (Kd.int .u32) 51 w' w.heap.size (fun k_ => some k_ ≠ (.slice Ao37 t746.length co37 : Value).ownBlock ∧ some k_ ≠ (.slice Ao44 t751.length co44 : Value).ownBlock ∧ some k_ ≠ (s_.1 : Value).ownBlock ∧ some k_ ≠ (s_.2.2.1 : Value).ownBlock) s_.2.1 t761) ∧ (Kd.R (Kd.int .u32) 51 w' w.heap.size (fun k_ => some k_ ≠ (.slice Ao37 t746.length co37 : Value).ownBlock ∧ some k_ ≠ (.slice Ao44 t751.length co44 : Value).ownBlock ∧ some k_ ≠ (s_.1 : Value).ownBlock ∧ some k_ ≠ (s_.2.1 : Value).ownBlock) s_.2.2.1 t765) ∧ (w'.heap[gb740]? = some (.cells #[.bool a0_0, .slice A0_1 l0_1.length c0_1, .int .i64 a0_2] 27 (0, 0))) ∧ (w'.heap[gb741]? = some (.cells #[.bool a1_0, .slice A1_1 l1_1.length c1_1] 24 (0, 0))) ∧ (w'.heap[gb749]? = some (.cells #[.bool t745, .slice Ao37 t746.length co37] 24 (0, 0))) ∧ (w'.heap[gb755]? = some (.cells #[.bool t750, .slice Ao44 t751.length co44, .int .i64 t754] 27 (0, 0))) ∧ (w'.heap[s_.2.2.2]? = some (.cells #[.bool false, .slice none 0 0, .int .i64 0] 27 (0, 0))) ∧ (w.heap.size ≤ s_.2.2.2) ∧ (w.heap.size ≤ s_.2.2.2) ∧ (gb740 ≠ s_.2.2.2) ∧ (s_.2.2.2 ≠ gb740) ∧ (gb741 ≠ s_.2.2.2) ∧ (s_.2.2.2 ≠ gb741) ∧ (gb749 ≠ s_.2.2.2) ∧ (s_.2.2.2 ≠ gb749) ∧ (gb755 ≠ s_.2.2.2) ∧ (s_.2.2.2 ≠ gb755) ∧ (Below w.heap.size w w')) ?_ ?_
      rotate_left
      ·intro hCont
       refine two_ (i := 1) (j := 4) (Ni := some 32) (Nj := some 10) #[true, true, false, false, false, false] #[true, false, false, false, true, false] rfl rfl rfl rfl (by kernel_rfl) (by decide) (by decide) (fun K hK => ?_) (fun K hK => ?_)
       ·skip
        refine gs_ Tryd.func25 #[.int .i64 1] ?_
        with_reducible refine (whole_From.calls kj5 1 t756 t757 _ A20.out).mono ?_
        rintro e w47 ⟨v758, rfl, ho0, hb⟩
        refine ⟨_, rfl, ?_⟩
        have HO759 := Aside0.mk (Kd.R_lower (Kd.R_new' (Kd.R_new' ho0 (Kd.R_lt (kr_ HO748.out))) (Kd.R_lt (kr_ HO753.out))) (below_size (bw_ HB.out)))
        replace HO748 := Aside0.mk (Kd.R_elder' (kr_ HO748.out) (Kd.R_base ho0) hb)
        replace HO753 := Aside0.mk (Kd.R_elder' (kr_ HO753.out) (Kd.R_base ho0) hb)
        replace BK740 := kq_ BK740 hb
        replace BK741 := kq_ BK741 hb
        replace BK749 := kq_ BK749 hb
        replace BK755 := kq_ BK755 hb
        replace HB := bq_ HB hb
        (try clear hb)
        (try clear hb2)
        (try clear hk)
        (try clear hi)
        (try clear ho0)
        obtain ⟨Ao48, co48, eo48⟩ := Kd.R_slice HO759.out
        (first | subst eo48 | (injection eo48 with f1_ f2_ f3_; have f4_ := f1_.symm; have f5_ := f3_.symm; clear f1_ f2_ f3_; subst f4_; subst f5_))
        refine hK.out _ _ ⟨(blk_cell BK749.out 0).trans rfl, (blk_cell BK749.out 1).trans rfl⟩ (fun hHeld => ?_)
        clear hK K
        refine norm_ (a' := ?_) ?_ ?_
        rotate_left
        ·show Act.put _ (some 32) _ = _
         exact pt_
        refine two_ (i := 2) (j := 4) (Ni := some 33) (Nj := some 10) #[true, true, true, false, false, false] #[true, true, false, false, true, false] rfl rfl rfl rfl (by kernel_rfl) (by decide) (by decide) (fun K hK => ?_) (fun K hK => ?_)
        ·skip
         refine gs_ Tryd.func24 #[.agg #[.bool t745, .slice Ao37 t746.length co37], .agg #[.bool t756, .slice Ao48 t757.length co48]] ?_
         with_reducible refine (whole_Add.calls kj5 t745 _ _ t746 t756 _ _ t757 t760 t761 _ ?side1 ?side2 ?side3 ?side4 A21.out).mono ?_
         (case side1 => exact kc_ (Kd.R_reads' HO748.out).2.2)
         (case side2 => exact (Kd.R_reads' HO748.out).2.1)
         (case side3 => exact kc_ (Kd.R_reads' HO759.out).2.2)
         (case side4 => exact (Kd.R_reads' HO759.out).2.1)
         rintro e w49 ⟨v762, rfl, ho0, hb⟩
         refine ⟨_, rfl, ?_⟩
         have HO763 := Aside0.mk (Kd.R_lower (Kd.R_new' (Kd.R_new' (Kd.R_new' ho0 (Kd.R_lt (kr_ HO748.out))) (Kd.R_lt (kr_ HO753.out))) (Kd.R_lt (kr_ HO759.out))) (below_size (bw_ HB.out)))
         replace HO748 := Aside0.mk (Kd.R_elder' (kr_ HO748.out) (Kd.R_base ho0) hb)
         replace HO753 := Aside0.mk (Kd.R_elder' (kr_ HO753.out) (Kd.R_base ho0) hb)
         replace HO759 := Aside0.mk (Kd.R_elder' (kr_ HO759.out) (Kd.R_base ho0) hb)
         replace BK740 := kq_ BK740 hb
         replace BK741 := kq_ BK741 hb
         replace BK749 := kq_ BK749 hb
         replace BK755 := kq_ BK755 hb
         replace HB := bq_ HB hb
         (try clear hb)
         (try clear hb2)
         (try clear hk)
         (try clear hi)
         (try clear ho0)
         obtain ⟨Ao50, co50, eo50⟩ := Kd.R_slice HO763.out
         (first | subst eo50 | (injection eo50 with f1_ f2_ f3_; have f4_ := f1_.symm; have f5_ := f3_.symm; clear f1_ f2_ f3_; subst f4_; subst f5_))
         refine hK.out _ _ ⟨(blk_cell BK749.out 0).trans rfl, (blk_cell BK749.out 1).trans rfl⟩ (fun hHeld => ?_)
         clear hK K
         refine norm_ (a' := ?_) ?_ ?_
         rotate_left
         ·show Act.put _ (some 33) _ = _
          exact pt_
         refine two_ (i := 3) (j := 4) (Ni := some 34) (Nj := some 10) #[true, true, true, true, false, false] #[true, true, true, false, true, false] rfl rfl rfl rfl (by kernel_rfl) (by decide) (by decide) (fun K hK => ?_) (fun K hK => ?_)
         ·skip
          refine gs_ Tryd.func10 #[.agg #[.bool t760, .slice Ao50 t761.length co50], .int .i64 0] ?_
          with_reducible refine (dy_Make.calls kj5 t760 _ _ t761 0 t764 t765 t768 _ ?side1 ?side2 A22.out ?sidet).mono ?_
          (case sidet => exact Kd.C_below HTAB.out (bw_ HB.out))
          (case side1 => exact kc_ (Kd.R_reads' HO763.out).2.2)
          (case side2 => exact (Kd.R_reads' HO763.out).2.1)
          rintro e w51 ⟨v766, rfl, ho0, hb⟩
          refine ⟨_, rfl, ?_⟩
          have HO767 := Aside0.mk (Kd.R_lower (Kd.R_new' (Kd.R_new' (Kd.R_new' (Kd.R_new' ho0 (Kd.R_lt (kr_ HO748.out))) (Kd.R_lt (kr_ HO753.out))) (Kd.R_lt (kr_ HO759.out))) (Kd.R_lt (kr_ HO763.out))) (below_size (bw_ HB.out)))
          replace HO748 := Aside0.mk (Kd.R_elder' (kr_ HO748.out) (Kd.R_base ho0) hb)
          replace HO753 := Aside0.mk (Kd.R_elder' (kr_ HO753.out) (Kd.R_base ho0) hb)
          replace HO759 := Aside0.mk (Kd.R_elder' (kr_ HO759.out) (Kd.R_base ho0) hb)
          replace HO763 := Aside0.mk (Kd.R_elder' (kr_ HO763.out) (Kd.R_base ho0) hb)
          replace BK740 := kq_ BK740 hb
          replace BK741 := kq_ BK741 hb
          replace BK749 := kq_ BK749 hb
          replace BK755 := kq_ BK755 hb
          replace HB := bq_ HB hb
          (try clear hb)
          (try clear hb2)
          (try clear hk)
          (try clear hi)
          (try clear ho0)
          refine hK.out _ _ ⟨(blk_cell BK749.out 0).trans rfl, (blk_cell BK749.out 1).trans rfl⟩ (fun hHeld => ?_)
          clear hK K
          refine norm_ (a' := ?_) ?_ ?_
          rotate_left
          ·show Act.put _ (some 34) _ = _
           exact pt_
          refine one_ (i := 4) (N := some 10) #[true, true, true, true, true, false] rfl rfl (by kernel_rfl) (by decide) (fun K hK => ?_)
          refine box_step ?hg (N := 10) ?hd (cs := #[.bool false, .slice none 0 0, .int .i64 0]) (t := 27) ?hr ?_; (case hd => rfl); (case hg => rfl); (case hr => first | (go_simp; done) | (go_simp; rfl))
          intro gb769 hg w52 hbox hb
          have BK769 := Aside0.mk (hbox)
          have GW769 := ge_ hg HB
          have GE769 := ge_ hg HB
          have NB740_769 := nb_ hg BK740
          have NB769_740 := nc_ hg BK740
          have NB741_769 := nb_ hg BK741
          have NB769_741 := nc_ hg BK741
          have NB749_769 := nb_ hg BK749
          have NB769_749 := nc_ hg BK749
          have NB755_769 := nb_ hg BK755
          have NB769_755 := nc_ hg BK755
          replace HO748 := Aside0.mk (Kd.R_below (kr_ HO748.out) hb)
          replace HO753 := Aside0.mk (Kd.R_below (kr_ HO753.out) hb)
          replace HO759 := Aside0.mk (Kd.R_below (kr_ HO759.out) hb)
          replace HO763 := Aside0.mk (Kd.R_below (kr_ HO763.out) hb)
          replace HO767 := Aside0.mk (Kd.R_below (kr_ HO767.out) hb)
          replace BK740 := kq_ BK740 hb
          replace BK741 := kq_ BK741 hb
          replace BK749 := kq_ BK749 hb
          replace BK755 := kq_ BK755 hb
          replace HB := bq_ HB hb
          clear hb hbox hg
          refine hK.out _ _ ⟨(blk_cell BK749.out 0).trans rfl, (blk_cell BK749.out 1).trans rfl⟩ (fun hHeld => ?_)
          clear hK K
          refine norm_ (a' := ?_) ?_ ?_
          rotate_left
          ·show Act.put _ (some 10) _ = _
           exact pt_
          exact norm_ (by simp only [putAll, Act.put, List.setIfInBounds_toArray, List.set_cons_zero, List.set_cons_succ]) (hCont (.slice Ao48 t757.length co48, .slice Ao50 t761.length co50, v766, gb769) _ ⟨hHeld, (kr_ (Kd.R_mono HO748.out (fun _ hk => ⟨hk.1.1.1, ⟨hk.1.1.2, ⟨hk.1.2, hk.2⟩⟩⟩))), (kr_ (Kd.R_mono HO753.out (fun _ hk => ⟨hk.1.1.1, ⟨hk.1.1.2, ⟨hk.1.2, hk.2⟩⟩⟩))), (kr_ (Kd.R_mono HO759.out (fun _ hk => ⟨hk.1.1.1.2, ⟨hk.1.1.2, ⟨hk.1.2, hk.2⟩⟩⟩))), (kr_ (Kd.R_mono HO763.out (fun _ hk => ⟨hk.1.1.1.2, ⟨hk.1.1.2, ⟨hk.1.2, hk.2⟩⟩⟩))), (kr_ (Kd.R_mono HO767.out (fun _ hk => ⟨hk.1.1.1.2, ⟨hk.1.1.2, ⟨hk.1.2, hk.2⟩⟩⟩))), (kb_ BK740.out), (kb_ BK741.out), (kb_ BK749.out), (kb_ BK755.out), (kb_ BK769.out), GW769.out, GE769.out, NB740_769.out, NB769_740.out, NB741_769.out, NB769_741.out, NB749_769.out, NB769_749.out, NB755_769.out, NB769_755.out, (bw_ HB.out)⟩)
         ·skip
          refine box_step ?hg (N := 10) ?hd (cs := #[.bool false, .slice none 0 0, .int .i64 0]) (t := 27) ?hr ?_; (case hd => rfl); (case hg => rfl); (case hr => first | (go_simp; done) | (go_simp; rfl))
          intro gb769 hg w50 hbox hb
          have BK769 := Aside0.mk (hbox)
          have GW769 := ge_ hg HB
          have GE769 := ge_ hg HB
          have NB740_769 := nb_ hg BK740
          have NB769_740 := nc_ hg BK740
          have NB741_769 := nb_ hg BK741
          have NB769_741 := nc_ hg BK741
          have NB749_769 := nb_ hg BK749
          have NB769_749 := nc_ hg BK749
          have NB755_769 := nb_ hg BK755
          have NB769_755 := nc_ hg BK755
          replace HO748 := Aside0.mk (Kd.R_below (kr_ HO748.out) hb)
          replace HO753 := Aside0.mk (Kd.R_below (kr_ HO753.out) hb)
          replace HO759 := Aside0.mk (Kd.R_below (kr_ HO759.out) hb)
          replace HO763 := Aside0.mk (Kd.R_below (kr_ HO763.out) hb)
          replace BK740 := kq_ BK740 hb
          replace BK741 := kq_ BK741 hb
          replace BK749 := kq_ BK749 hb
          replace BK755 := kq_ BK755 hb
          replace HB := bq_ HB hb
          clear hb hbox hg
          obtain ⟨Ao51, co51, eo51⟩ := Kd.R_slice HO763.out
          (first | subst eo51 | (injection eo51 with f1_ f2_ f3_; have f4_ := f1_.symm; have f5_ := f3_.symm; clear f1_ f2_ f3_; subst f4_; subst f5_))
          refine hK.out _ _ ⟨(blk_cell BK749.out 0).trans rfl, (blk_cell BK749.out 1).trans rfl⟩ (fun hHeld => ?_)
          clear hK K
          refine norm_ (a' := ?_) ?_ ?_
          rotate_left
          ·show Act.put _ (some 10) _ = _
           exact pt_
          refine one_ (i := 3) (N := some 34) #[true, true, true, true, true, false] rfl rfl (by kernel_rfl) (by decide) (fun K hK => ?_)
          refine gs_ Tryd.func10 #[.agg #[.bool t760, .slice Ao51 t761.length co51], .int .i64 0] ?_
          with_reducible refine (dy_Make.calls kj5 t760 _ _ t761 0 t764 t765 t768 _ ?side1 ?side2 A22.out ?sidet).mono ?_
          (case sidet => exact Kd.C_below HTAB.out (bw_ HB.out))
          (case side1 => exact kc_ (Kd.R_reads' HO763.out).2.2)
          (case side2 => exact (Kd.R_reads' HO763.out).2.1)
          rintro e w52 ⟨v766, rfl, ho0, hb⟩
          refine ⟨_, rfl, ?_⟩
          have HO767 := Aside0.mk (Kd.R_lower (Kd.R_new' (Kd.R_new' (Kd.R_new' (Kd.R_new' ho0 (Kd.R_lt (kr_ HO748.out))) (Kd.R_lt (kr_ HO753.out))) (Kd.R_lt (kr_ HO759.out))) (Kd.R_lt (kr_ HO763.out))) (below_size (bw_ HB.out)))
          replace HO748 := Aside0.mk (Kd.R_elder' (kr_ HO748.out) (Kd.R_base ho0) hb)
          replace HO753 := Aside0.mk (Kd.R_elder' (kr_ HO753.out) (Kd.R_base ho0) hb)
          replace HO759 := Aside0.mk (Kd.R_elder' (kr_ HO759.out) (Kd.R_base ho0) hb)
          replace HO763 := Aside0.mk (Kd.R_elder' (kr_ HO763.out) (Kd.R_base ho0) hb)
          replace BK740 := kq_ BK740 hb
          replace BK741 := kq_ BK741 hb
          replace BK749 := kq_ BK749 hb
          replace BK755 := kq_ BK755 hb
          replace BK769 := kq_ BK769 hb
          replace HB := bq_ HB hb
          (try clear hb)
          (try clear hb2)
          (try clear hk)
          (try clear hi)
          (try clear ho0)
          refine hK.out _ _ ⟨(blk_cell BK749.out 0).trans rfl, (blk_cell BK749.out 1).trans rfl⟩ (fun hHeld => ?_)
          clear hK K
          refine norm_ (a' := ?_) ?_ ?_
          rotate_left
          ·show Act.put _ (some 34) _ = _
           exact pt_
          exact norm_ (by simp only [putAll, Act.put, List.setIfInBounds_toArray, List.set_cons_zero, List.set_cons_succ]) (hCont (.slice Ao48 t757.length co48, .slice Ao51 t761.length co51, v766, gb769) _ ⟨hHeld, (kr_ (Kd.R_mono HO748.out (fun _ hk => ⟨hk.1.1.1, ⟨hk.1.1.2, ⟨hk.1.2, hk.2⟩⟩⟩))), (kr_ (Kd.R_mono HO753.out (fun _ hk => ⟨hk.1.1.1, ⟨hk.1.1.2, ⟨hk.1.2, hk.2⟩⟩⟩))), (kr_ (Kd.R_mono HO759.out (fun _ hk => ⟨hk.1.1.1.2, ⟨hk.1.1.2, ⟨hk.1.2, hk.2⟩⟩⟩))), (kr_ (Kd.R_mono HO763.out (fun _ hk => ⟨hk.1.1.1.2, ⟨hk.1.1.2, ⟨hk.1.2, hk.2⟩⟩⟩))), (kr_ (Kd.R_mono HO767.out (fun _ hk => ⟨hk.1.1.1.2, ⟨hk.1.1.2, ⟨hk.1.2, hk.2⟩⟩⟩))), (kb_ BK740.out), (kb_ BK741.out), (kb_ BK749.out), (kb_ BK755.out), (kb_ BK769.out), GW769.out, GE769.out, NB740_769.out, NB769_740.out, NB741_769.out, NB769_741.out, NB749_769.out, NB769_749.out, NB755_769.out, NB769_755.out, (bw_ HB.out)⟩)
        ·skip
         refine box_step ?hg (N := 10) ?hd (cs := #[.bool false, .slice none 0 0, .int .i64 0]) (t := 27) ?hr ?_; (case hd => rfl); (case hg => rfl); (case hr => first | (go_simp; done) | (go_simp; rfl))
         intro gb769 hg w48 hbox hb
         have BK769 := Aside0.mk (hbox)
         have GW769 := ge_ hg HB
         have GE769 := ge_ hg HB
         have NB740_769 := nb_ hg BK740
         have NB769_740 := nc_ hg BK740
         have NB741_769 := nb_ hg BK741
         have NB769_741 := nc_ hg BK741
         have NB749_769 := nb_ hg BK749
         have NB769_749 := nc_ hg BK749
         have NB755_769 := nb_ hg BK755
         have NB769_755 := nc_ hg BK755
         replace HO748 := Aside0.mk (Kd.R_below (kr_ HO748.out) hb)
         replace HO753 := Aside0.mk (Kd.R_below (kr_ HO753.out) hb)
         replace HO759 := Aside0.mk (Kd.R_below (kr_ HO759.out) hb)
         replace BK740 := kq_ BK740 hb
         replace BK741 := kq_ BK741 hb
         replace BK749 := kq_ BK749 hb
         replace BK755 := kq_ BK755 hb
         replace HB := bq_ HB hb
         clear hb hbox hg
         obtain ⟨Ao49, co49, eo49⟩ := Kd.R_slice HO759.out
         (first | subst eo49 | (injection eo49 with f1_ f2_ f3_; have f4_ := f1_.symm; have f5_ := f3_.symm; clear f1_ f2_ f3_; subst f4_; subst f5_))
         refine hK.out _ _ ⟨(blk_cell BK749.out 0).trans rfl, (blk_cell BK749.out 1).trans rfl⟩ (fun hHeld => ?_)
         clear hK K
         refine norm_ (a' := ?_) ?_ ?_
         rotate_left
         ·show Act.put _ (some 10) _ = _
          exact pt_
         refine one_ (i := 2) (N := some 33) #[true, true, true, false, true, false] rfl rfl (by kernel_rfl) (by decide) (fun K hK => ?_)
         refine gs_ Tryd.func24 #[.agg #[.bool t745, .slice Ao37 t746.length co37], .agg #[.bool t756, .slice Ao49 t757.length co49]] ?_
         with_reducible refine (whole_Add.calls kj5 t745 _ _ t746 t756 _ _ t757 t760 t761 _ ?side1 ?side2 ?side3 ?side4 A21.out).mono ?_
         (case side1 => exact kc_ (Kd.R_reads' HO748.out).2.2)
         (case side2 => exact (Kd.R_reads' HO748.out).2.1)
         (case side3 => exact kc_ (Kd.R_reads' HO759.out).2.2)
         (case side4 => exact (Kd.R_reads' HO759.out).2.1)
         rintro e w50 ⟨v762, rfl, ho0, hb⟩
         refine ⟨_, rfl, ?_⟩
         have HO763 := Aside0.mk (Kd.R_lower (Kd.R_new' (Kd.R_new' (Kd.R_new' ho0 (Kd.R_lt (kr_ HO748.out))) (Kd.R_lt (kr_ HO753.out))) (Kd.R_lt (kr_ HO759.out))) (below_size (bw_ HB.out)))
         replace HO748 := Aside0.mk (Kd.R_elder' (kr_ HO748.out) (Kd.R_base ho0) hb)
         replace HO753 := Aside0.mk (Kd.R_elder' (kr_ HO753.out) (Kd.R_base ho0) hb)
         replace HO759 := Aside0.mk (Kd.R_elder' (kr_ HO759.out) (Kd.R_base ho0) hb)
         replace BK740 := kq_ BK740 hb
         replace BK741 := kq_ BK741 hb
         replace BK749 := kq_ BK749 hb
         replace BK755 := kq_ BK755 hb
         replace BK769 := kq_ BK769 hb
         replace HB := bq_ HB hb
         (try clear hb)
         (try clear hb2)
         (try clear hk)
         (try clear hi)
         (try clear ho0)
         obtain ⟨Ao51, co51, eo51⟩ := Kd.R_slice HO763.out
         (first | subst eo51 | (injection eo51 with f1_ f2_ f3_; have f4_ := f1_.symm; have f5_ := f3_.symm; clear f1_ f2_ f3_; subst f4_; subst f5_))
         refine hK.out _ _ ⟨(blk_cell BK749.out 0).trans rfl, (blk_cell BK749.out 1).trans rfl⟩ (fun hHeld => ?_)
         clear hK K
         refine norm_ (a' := ?_) ?_ ?_
         rotate_left
         ·show Act.put _ (some 33) _ = _
          exact pt_
         refine one_ (i := 3) (N := some 34) #[true, true, true, true, true, false] rfl rfl (by kernel_rfl) (by decide) (fun K hK => ?_)
         refine gs_ Tryd.func10 #[.agg #[.bool t760, .slice Ao51 t761.length co51], .int .i64 0] ?_
         with_reducible refine (dy_Make.calls kj5 t760 _ _ t761 0 t764 t765 t768 _ ?side1 ?side2 A22.out ?sidet).mono ?_
         (case sidet => exact Kd.C_below HTAB.out (bw_ HB.out))
         (case side1 => exact kc_ (Kd.R_reads' HO763.out).2.2)
         (case side2 => exact (Kd.R_reads' HO763.out).2.1)
         rintro e w52 ⟨v766, rfl, ho0, hb⟩
         refine ⟨_, rfl, ?_⟩
         have HO767 := Aside0.mk (Kd.R_lower (Kd.R_new' (Kd.R_new' (Kd.R_new' (Kd.R_new' ho0 (Kd.R_lt (kr_ HO748.out))) (Kd.R_lt (kr_ HO753.out))) (Kd.R_lt (kr_ HO759.out))) (Kd.R_lt (kr_ HO763.out))) (below_size (bw_ HB.out)))
         replace HO748 := Aside0.mk (Kd.R_elder' (kr_ HO748.out) (Kd.R_base ho0) hb)
         replace HO753 := Aside0.mk (Kd.R_elder' (kr_ HO753.out) (Kd.R_base ho0) hb)
         replace HO759 := Aside0.mk (Kd.R_elder' (kr_ HO759.out) (Kd.R_base ho0) hb)
         replace HO763 := Aside0.mk (Kd.R_elder' (kr_ HO763.out) (Kd.R_base ho0) hb)
         replace BK740 := kq_ BK740 hb
         replace BK741 := kq_ BK741 hb
         replace BK749 := kq_ BK749 hb
         replace BK755 := kq_ BK755 hb
         replace BK769 := kq_ BK769 hb
         replace HB := bq_ HB hb
         (try clear hb)
         (try clear hb2)
         (try clear hk)
         (try clear hi)
         (try clear ho0)
         refine hK.out _ _ ⟨(blk_cell BK749.out 0).trans rfl, (blk_cell BK749.out 1).trans rfl⟩ (fun hHeld => ?_)
         clear hK K
         refine norm_ (a' := ?_) ?_ ?_
         rotate_left
         ·show Act.put _ (some 34) _ = _
          exact pt_
         exact norm_ (by simp only [putAll, Act.put, List.setIfInBounds_toArray, List.set_cons_zero, List.set_cons_succ]) (hCont (.slice Ao49 t757.length co49, .slice Ao51 t761.length co51, v766, gb769) _ ⟨hHeld, (kr_ (Kd.R_mono HO748.out (fun _ hk => ⟨hk.1.1.1, ⟨hk.1.1.2, ⟨hk.1.2, hk.2⟩⟩⟩))), (kr_ (Kd.R_mono HO753.out (fun _ hk => ⟨hk.1.1.1, ⟨hk.1.1.2, ⟨hk.1.2, hk.2⟩⟩⟩))), (kr_ (Kd.R_mono HO759.out (fun _ hk => ⟨hk.1.1.1.2, ⟨hk.1.1.2, ⟨hk.1.2, hk.2⟩⟩⟩))), (kr_ (Kd.R_mono HO763.out (fun _ hk => ⟨hk.1.1.1.2, ⟨hk.1.1.2, ⟨hk.1.2, hk.2⟩⟩⟩))), (kr_ (Kd.R_mono HO767.out (fun _ hk => ⟨hk.1.1.1.2, ⟨hk.1.1.2, ⟨hk.1.2, hk.2⟩⟩⟩))), (kb_ BK740.out), (kb_ BK741.out), (kb_ BK749.out), (kb_ BK755.out), (kb_ BK769.out), GW769.out, GE769.out, NB740_769.out, NB769_740.out, NB741_769.out, NB769_741.out, NB749_769.out, NB769_749.out, NB755_769.out, NB769_755.out, (bw_ HB.out)⟩)
       ·skip
        refine box_step ?hg (N := 10) ?hd (cs := #[.bool false, .slice none 0 0, .int .i64 0]) (t := 27) ?hr ?_; (case hd => rfl); (case hg => rfl); (case hr => first | (go_simp; done) | (go_simp; rfl))
        intro gb769 hg w47 hbox hb
        have BK769 := Aside0.mk (hbox)
        have GW769 := ge_ hg HB
        have GE769 := ge_ hg HB
        have NB740_769 := nb_ hg BK740
        have NB769_740 := nc_ hg BK740
        have NB741_769 := nb_ hg BK741
        have NB769_741 := nc_ hg BK741
        have NB749_769 := nb_ hg BK749
        have NB769_749 := nc_ hg BK749
        have NB755_769 := nb_ hg BK755
        have NB769_755 := nc_ hg BK755
        replace HO748 := Aside0.mk (Kd.R_below (kr_ HO748.out) hb)
        replace HO753 := Aside0.mk (Kd.R_below (kr_ HO753.out) hb)
        replace BK740 := kq_ BK740 hb
        replace BK741 := kq_ BK741 hb
        replace BK749 := kq_ BK749 hb
        replace BK755 := kq_ BK755 hb
        replace HB := bq_ HB hb
        clear hb hbox hg
        refine hK.out _ _ ⟨(blk_cell BK749.out 0).trans rfl, (blk_cell BK749.out 1).trans rfl⟩ (fun hHeld => ?_)
        clear hK K
        refine norm_ (a' := ?_) ?_ ?_
        rotate_left
        ·show Act.put _ (some 10) _ = _
         exact pt_
        refine one_ (i := 1) (N := some 32) #[true, true, false, false, true, false] rfl rfl (by kernel_rfl) (by decide) (fun K hK => ?_)
        refine gs_ Tryd.func25 #[.int .i64 1] ?_
        with_reducible refine (whole_From.calls kj5 1 t756 t757 _ A20.out).mono ?_
        rintro e w48 ⟨v758, rfl, ho0, hb⟩
        refine ⟨_, rfl, ?_⟩
        have HO759 := Aside0.mk (Kd.R_lower (Kd.R_new' (Kd.R_new' ho0 (Kd.R_lt (kr_ HO748.out))) (Kd.R_lt (kr_ HO753.out))) (below_size (bw_ HB.out)))
        replace HO748 := Aside0.mk (Kd.R_elder' (kr_ HO748.out) (Kd.R_base ho0) hb)
        replace HO753 := Aside0.mk (Kd.R_elder' (kr_ HO753.out) (Kd.R_base ho0) hb)
        replace BK740 := kq_ BK740 hb
        replace BK741 := kq_ BK741 hb
        replace BK749 := kq_ BK749 hb
        replace BK755 := kq_ BK755 hb
        replace BK769 := kq_ BK769 hb
        replace HB := bq_ HB hb
        (try clear hb)
        (try clear hb2)
        (try clear hk)
        (try clear hi)
        (try clear ho0)
        obtain ⟨Ao49, co49, eo49⟩ := Kd.R_slice HO759.out
        (first | subst eo49 | (injection eo49 with f1_ f2_ f3_; have f4_ := f1_.symm; have f5_ := f3_.symm; clear f1_ f2_ f3_; subst f4_; subst f5_))
        refine hK.out _ _ ⟨(blk_cell BK749.out 0).trans rfl, (blk_cell BK749.out 1).trans rfl⟩ (fun hHeld => ?_)
        clear hK K
        refine norm_ (a' := ?_) ?_ ?_
        rotate_left
        ·show Act.put _ (some 32) _ = _
         exact pt_
        refine one_ (i := 2) (N := some 33) #[true, true, true, false, true, false] rfl rfl (by kernel_rfl) (by decide) (fun K hK => ?_)
        refine gs_ Tryd.func24 #[.agg #[.bool t745, .slice Ao37 t746.length co37], .agg #[.bool t756, .slice Ao49 t757.length co49]] ?_
        with_reducible refine (whole_Add.calls kj5 t745 _ _ t746 t756 _ _ t757 t760 t761 _ ?side1 ?side2 ?side3 ?side4 A21.out).mono ?_
        (case side1 => exact kc_ (Kd.R_reads' HO748.out).2.2)
        (case side2 => exact (Kd.R_reads' HO748.out).2.1)
        (case side3 => exact kc_ (Kd.R_reads' HO759.out).2.2)
        (case side4 => exact (Kd.R_reads' HO759.out).2.1)
        rintro e w50 ⟨v762, rfl, ho0, hb⟩
        refine ⟨_, rfl, ?_⟩
        have HO763 := Aside0.mk (Kd.R_lower (Kd.R_new' (Kd.R_new' (Kd.R_new' ho0 (Kd.R_lt (kr_ HO748.out))) (Kd.R_lt (kr_ HO753.out))) (Kd.R_lt (kr_ HO759.out))) (below_size (bw_ HB.out)))
        replace HO748 := Aside0.mk (Kd.R_elder' (kr_ HO748.out) (Kd.R_base ho0) hb)
        replace HO753 := Aside0.mk (Kd.R_elder' (kr_ HO753.out) (Kd.R_base ho0) hb)
        replace HO759 := Aside0.mk (Kd.R_elder' (kr_ HO759.out) (Kd.R_base ho0) hb)
        replace BK740 := kq_ BK740 hb
        replace BK741 := kq_ BK741 hb
        replace BK749 := kq_ BK749 hb
        replace BK755 := kq_ BK755 hb
        replace BK769 := kq_ BK769 hb
        replace HB := bq_ HB hb
        (try clear hb)
        (try clear hb2)
        (try clear hk)
        (try clear hi)
        (try clear ho0)
        obtain ⟨Ao51, co51, eo51⟩ := Kd.R_slice HO763.out
        (first | subst eo51 | (injection eo51 with f1_ f2_ f3_; have f4_ := f1_.symm; have f5_ := f3_.symm; clear f1_ f2_ f3_; subst f4_; subst f5_))
        refine hK.out _ _ ⟨(blk_cell BK749.out 0).trans rfl, (blk_cell BK749.out 1).trans rfl⟩ (fun hHeld => ?_)
        clear hK K
        refine norm_ (a' := ?_) ?_ ?_
        rotate_left
        ·show Act.put _ (some 33) _ = _
         exact pt_
        refine one_ (i := 3) (N := some 34) #[true, true, true, true, true, false] rfl rfl (by kernel_rfl) (by decide) (fun K hK => ?_)
        refine gs_ Tryd.func10 #[.agg #[.bool t760, .slice Ao51 t761.length co51], .int .i64 0] ?_
        with_reducible refine (dy_Make.calls kj5 t760 _ _ t761 0 t764 t765 t768 _ ?side1 ?side2 A22.out ?sidet).mono ?_
        (case sidet => exact Kd.C_below HTAB.out (bw_ HB.out))
        (case side1 => exact kc_ (Kd.R_reads' HO763.out).2.2)
        (case side2 => exact (Kd.R_reads' HO763.out).2.1)
        rintro e w52 ⟨v766, rfl, ho0, hb⟩
        refine ⟨_, rfl, ?_⟩
        have HO767 := Aside0.mk (Kd.R_lower (Kd.R_new' (Kd.R_new' (Kd.R_new' (Kd.R_new' ho0 (Kd.R_lt (kr_ HO748.out))) (Kd.R_lt (kr_ HO753.out))) (Kd.R_lt (kr_ HO759.out))) (Kd.R_lt (kr_ HO763.out))) (below_size (bw_ HB.out)))
        replace HO748 := Aside0.mk (Kd.R_elder' (kr_ HO748.out) (Kd.R_base ho0) hb)
        replace HO753 := Aside0.mk (Kd.R_elder' (kr_ HO753.out) (Kd.R_base ho0) hb)
        replace HO759 := Aside0.mk (Kd.R_elder' (kr_ HO759.out) (Kd.R_base ho0) hb)
        replace HO763 := Aside0.mk (Kd.R_elder' (kr_ HO763.out) (Kd.R_base ho0) hb)
        replace BK740 := kq_ BK740 hb
        replace BK741 := kq_ BK741 hb
        replace BK749 := kq_ BK749 hb
        replace BK755 := kq_ BK755 hb
        replace BK769 := kq_ BK769 hb
        replace HB := bq_ HB hb
        (try clear hb)
        (try clear hb2)
        (try clear hk)
        (try clear hi)
        (try clear ho0)
        refine hK.out _ _ ⟨(blk_cell BK749.out 0).trans rfl, (blk_cell BK749.out 1).trans rfl⟩ (fun hHeld => ?_)
        clear hK K
        refine norm_ (a' := ?_) ?_ ?_
        rotate_left
        ·show Act.put _ (some 34) _ = _
         exact pt_
        exact norm_ (by simp only [putAll, Act.put, List.setIfInBounds_toArray, List.set_cons_zero, List.set_cons_succ]) (hCont (.slice Ao49 t757.length co49, .slice Ao51 t761.length co51, v766, gb769) _ ⟨hHeld, (kr_ (Kd.R_mono HO748.out (fun _ hk => ⟨hk.1.1.1, ⟨hk.1.1.2, ⟨hk.1.2, hk.2⟩⟩⟩))), (kr_ (Kd.R_mono HO753.out (fun _ hk => ⟨hk.1.1.1, ⟨hk.1.1.2, ⟨hk.1.2, hk.2⟩⟩⟩))), (kr_ (Kd.R_mono HO759.out (fun _ hk => ⟨hk.1.1.1.2, ⟨hk.1.1.2, ⟨hk.1.2, hk.2⟩⟩⟩))), (kr_ (Kd.R_mono HO763.out (fun _ hk => ⟨hk.1.1.1.2, ⟨hk.1.1.2, ⟨hk.1.2, hk.2⟩⟩⟩))), (kr_ (Kd.R_mono HO767.out (fun _ hk => ⟨hk.1.1.1.2, ⟨hk.1.1.2, ⟨hk.1.2, hk.2⟩⟩⟩))), (kb_ BK740.out), (kb_ BK741.out), (kb_ BK749.out), (kb_ BK755.out), (kb_ BK769.out), GW769.out, GE769.out, NB740_769.out, NB769_740.out, NB741_769.out, NB769_741.out, NB749_769.out, NB769_749.out, NB755_769.out, NB769_755.out, (bw_ HB.out)⟩)
      rintro ⟨v758, v762, v766, gb769⟩ w53 ⟨hS_, h0_, h1_, h2_, h3_, h4_, h5_, h6_, h7_, h8_, h9_, h10_, h11_, h12_, h13_, h14_, h15_, h16_, h17_, h18_, h19_, h20_⟩
      have HO759 := Aside0.mk h2_
      have HO763 := Aside0.mk h3_
      have HO767 := Aside0.mk h4_
      have BK769 := Aside0.mk h9_
      have GW769 := Aside0.mk h10_
      have GE769 := Aside0.mk h11_
      have NB740_769 := Aside0.mk h12_
      have NB769_740 := Aside0.mk h13_
      have NB741_769 := Aside0.mk h14_
      have NB769_741 := Aside0.mk h15_
      have NB749_769 := Aside0.mk h16_
      have NB769_749 := Aside0.mk h17_
      have NB755_769 := Aside0.mk h18_
      have NB769_755 := Aside0.mk h19_
      replace HO748 := Aside0.mk h0_
      replace HO753 := Aside0.mk h1_
      replace BK740 := Aside0.mk h5_
      replace BK741 := Aside0.mk h6_
      replace BK749 := Aside0.mk h7_
      replace BK755 := Aside0.mk h8_
      replace HB := Aside0.mk h20_
      clear h0_ h1_ h2_ h3_ h4_ h5_ h6_ h7_ h8_ h9_ h10_ h11_ h12_ h13_ h14_ h15_ h16_ h17_ h18_ h19_ h20_
      have hHeld : w53.cell? ⟨gb749, 0, none⟩ = some (.bool t745) ∧ w53.cell? ⟨gb749, 1, none⟩ = some (.slice Ao37 t746.length co37) := hS_
      obtain ⟨Ao55, co55, eo55⟩ := Kd.R_slice HO767.out
      (first | subst eo55 | (injection eo55 with f1_ f2_ f3_; have f4_ := f1_.symm; have f5_ := f3_.symm; clear f1_ f2_ f3_; subst f4_; subst f5_))
      refine norm_ (a' := ?_) ?_ ?_
      rotate_left
      ·simp only [putAll, Act.put, List.setIfInBounds_toArray, List.set_cons_zero, List.set_cons_succ]
       rfl
      refine one_ (i := 5) (N := none) #[true, true, true, true, true, true] rfl rfl (by kernel_rfl) (by decide) (fun K hK => ?_)
      have hs54 : w53.cell? ⟨gb769, 0, none⟩ = some (.bool false) := (blk_cell BK769.out 0).trans rfl
      have hfs54 := fz_ BK769 0
      have hns54_0 := NB740_769.out
      have hns54_1 := NB741_769.out
      have hns54_2 := NB749_769.out
      have hns54_3 := NB755_769.out
      have hms54_0 := NB769_740.out
      have hms54_1 := NB769_741.out
      have hms54_2 := NB769_749.out
      have hms54_3 := NB769_755.out
      have hs56 : w53.cell? ⟨gb769, 1, none⟩ = some (.slice none 0 0) := (blk_cell BK769.out 1).trans rfl
      have hfs56 := fz_ BK769 1
      have hns56_0 := NB740_769.out
      have hns56_1 := NB741_769.out
      have hns56_2 := NB749_769.out
      have hns56_3 := NB755_769.out
      have hms56_0 := NB769_740.out
      have hms56_1 := NB769_741.out
      have hms56_2 := NB769_749.out
      have hms56_3 := NB769_755.out
      have hs57 : w53.cell? ⟨gb769, 2, none⟩ = some (.int .i64 0) := (blk_cell BK769.out 2).trans rfl
      have hfs57 := fz_ BK769 2
      have hns57_0 := NB740_769.out
      have hns57_1 := NB741_769.out
      have hns57_2 := NB749_769.out
      have hns57_3 := NB755_769.out
      have hms57_0 := NB769_740.out
      have hms57_1 := NB769_741.out
      have hms57_2 := NB769_749.out
      have hms57_3 := NB769_755.out
      refine skip_ (w1 := ?_) (by rfl) rfl ?_ ?_
      rotate_left
      ·go_simp
       rfl
      refine hK.out _ _ ⟨((cell_far (p := ⟨gb769, _, none⟩) NB749_769.out _).trans (((cell_far (p := ⟨gb769, _, none⟩) NB749_769.out _).trans (((cell_far (p := ⟨gb769, _, none⟩) NB749_769.out _).trans (hHeld.1)))))), ((cell_far (p := ⟨gb769, _, none⟩) NB749_769.out _).trans (((cell_far (p := ⟨gb769, _, none⟩) NB749_769.out _).trans (((cell_far (p := ⟨gb769, _, none⟩) NB749_769.out _).trans (hHeld.2))))))⟩ (fun hHeld => ?_)
      clear hK K
      refine done_ (by kernel_rfl) ?_
      try go_wp2
      have n0_ : Aside0 (Kd.R (Kd.int .u32) 51 (((w53.setCell ⟨gb769, 0, none⟩ (.bool t764)).setCell ⟨gb769, 1, none⟩ (.slice Ao55 t765.length co55)).setCell ⟨gb769, 2, none⟩ (.int .i64 t768)) w.heap.size (fun k_ => some k_ ≠ (.slice Ao44 t751.length co44 : Value).ownBlock ∧ some k_ ≠ (v758 : Value).ownBlock ∧ some k_ ≠ (v762 : Value).ownBlock ∧ some k_ ≠ (.slice Ao55 t765.length co55 : Value).ownBlock) (.slice Ao37 t746.length co37) t746) := ⟨by (with_reducible repeat (first | apply Kd.R_alloc | apply Kd.R_drewN | apply Kd.R_drew)); exact Kd.R_mono (Kd.R_far (p := ⟨gb769, 2, none⟩) (Kd.R_far (p := ⟨gb769, 1, none⟩) (Kd.R_far (p := ⟨gb769, 0, none⟩) (Kd.R_types HO748.out BK769.out (by decide)) (fun _ hk => hk.2) (.bool t764)) (fun _ hk => hk.2) (.slice Ao55 t765.length co55)) (fun _ hk => hk.2) (.int .i64 t768)) (fun _ hk => ⟨hk.1.1, ⟨hk.1.2.1, ⟨hk.1.2.2.1, hk.1.2.2.2⟩⟩⟩)⟩
      have n1_ : Aside0 (Kd.R (Kd.int .u32) 51 (((w53.setCell ⟨gb769, 0, none⟩ (.bool t764)).setCell ⟨gb769, 1, none⟩ (.slice Ao55 t765.length co55)).setCell ⟨gb769, 2, none⟩ (.int .i64 t768)) w.heap.size (fun k_ => some k_ ≠ (.slice Ao37 t746.length co37 : Value).ownBlock ∧ some k_ ≠ (v758 : Value).ownBlock ∧ some k_ ≠ (v762 : Value).ownBlock ∧ some k_ ≠ (.slice Ao55 t765.length co55 : Value).ownBlock) (.slice Ao44 t751.length co44) t751) := ⟨by (with_reducible repeat (first | apply Kd.R_alloc | apply Kd.R_drewN | apply Kd.R_drew)); exact Kd.R_mono (Kd.R_far (p := ⟨gb769, 2, none⟩) (Kd.R_far (p := ⟨gb769, 1, none⟩) (Kd.R_far (p := ⟨gb769, 0, none⟩) (Kd.R_types HO753.out BK769.out (by decide)) (fun _ hk => hk.2) (.bool t764)) (fun _ hk => hk.2) (.slice Ao55 t765.length co55)) (fun _ hk => hk.2) (.int .i64 t768)) (fun _ hk => ⟨hk.1.1, ⟨hk.1.2.1, ⟨hk.1.2.2.1, hk.1.2.2.2⟩⟩⟩)⟩
      have n2_ : Aside0 (Kd.R (Kd.int .u32) 51 (((w53.setCell ⟨gb769, 0, none⟩ (.bool t764)).setCell ⟨gb769, 1, none⟩ (.slice Ao55 t765.length co55)).setCell ⟨gb769, 2, none⟩ (.int .i64 t768)) w.heap.size (fun k_ => some k_ ≠ (.slice Ao37 t746.length co37 : Value).ownBlock ∧ some k_ ≠ (.slice Ao44 t751.length co44 : Value).ownBlock ∧ some k_ ≠ (v762 : Value).ownBlock ∧ some k_ ≠ (.slice Ao55 t765.length co55 : Value).ownBlock) v758 t757) := ⟨by (with_reducible repeat (first | apply Kd.R_alloc | apply Kd.R_drewN | apply Kd.R_drew)); exact Kd.R_mono (Kd.R_far (p := ⟨gb769, 2, none⟩) (Kd.R_far (p := ⟨gb769, 1, none⟩) (Kd.R_far (p := ⟨gb769, 0, none⟩) (Kd.R_types HO759.out BK769.out (by decide)) (fun _ hk => hk.2) (.bool t764)) (fun _ hk => hk.2) (.slice Ao55 t765.length co55)) (fun _ hk => hk.2) (.int .i64 t768)) (fun _ hk => ⟨hk.1.1, ⟨hk.1.2.1, ⟨hk.1.2.2.1, hk.1.2.2.2⟩⟩⟩)⟩
      have n3_ : Aside0 (Kd.R (Kd.int .u32) 51 (((w53.setCell ⟨gb769, 0, none⟩ (.bool t764)).setCell ⟨gb769, 1, none⟩ (.slice Ao55 t765.length co55)).setCell ⟨gb769, 2, none⟩ (.int .i64 t768)) w.heap.size (fun k_ => some k_ ≠ (.slice Ao37 t746.length co37 : Value).ownBlock ∧ some k_ ≠ (.slice Ao44 t751.length co44 : Value).ownBlock ∧ some k_ ≠ (v758 : Value).ownBlock ∧ some k_ ≠ (.slice Ao55 t765.length co55 : Value).ownBlock) v762 t761) := ⟨by (with_reducible repeat (first | apply Kd.R_alloc | apply Kd.R_drewN | apply Kd.R_drew)); exact Kd.R_mono (Kd.R_far (p := ⟨gb769, 2, none⟩) (Kd.R_far (p := ⟨gb769, 1, none⟩) (Kd.R_far (p := ⟨gb769, 0, none⟩) (Kd.R_types HO763.out BK769.out (by decide)) (fun _ hk => hk.2) (.bool t764)) (fun _ hk => hk.2) (.slice Ao55 t765.length co55)) (fun _ hk => hk.2) (.int .i64 t768)) (fun _ hk => ⟨hk.1.1, ⟨hk.1.2.1, ⟨hk.1.2.2.1, hk.1.2.2.2⟩⟩⟩)⟩
      have n4_ : Aside0 (Kd.R (Kd.int .u32) 51 (((w53.setCell ⟨gb769, 0, none⟩ (.bool t764)).setCell ⟨gb769, 1, none⟩ (.slice Ao55 t765.length co55)).setCell ⟨gb769, 2, none⟩ (.int .i64 t768)) w.heap.size (fun k_ => some k_ ≠ (.slice Ao37 t746.length co37 : Value).ownBlock ∧ some k_ ≠ (.slice Ao44 t751.length co44 : Value).ownBlock ∧ some k_ ≠ (v758 : Value).ownBlock ∧ some k_ ≠ (v762 : Value).ownBlock) (.slice Ao55 t765.length co55) t765) := ⟨by (with_reducible repeat (first | apply Kd.R_alloc | apply Kd.R_drewN | apply Kd.R_drew)); exact Kd.R_mono (Kd.R_far (p := ⟨gb769, 2, none⟩) (Kd.R_far (p := ⟨gb769, 1, none⟩) (Kd.R_far (p := ⟨gb769, 0, none⟩) (Kd.R_types HO767.out BK769.out (by decide)) (fun _ hk => hk.2) (.bool t764)) (fun _ hk => hk.2) (.slice Ao55 t765.length co55)) (fun _ hk => hk.2) (.int .i64 t768)) (fun _ hk => ⟨hk.1.1, ⟨hk.1.2.1, ⟨hk.1.2.2.1, hk.1.2.2.2⟩⟩⟩)⟩
      have n5_ : Aside0 ((((w53.setCell ⟨gb769, 0, none⟩ (.bool t764)).setCell ⟨gb769, 1, none⟩ (.slice Ao55 t765.length co55)).setCell ⟨gb769, 2, none⟩ (.int .i64 t768)).heap[gb740]? = some (.cells #[.bool a0_0, .slice A0_1 l0_1.length c0_1, .int .i64 a0_2] 27 (0, 0))) := ⟨by refine kb_ ?_; refine bf_ NB740_769 ?_; refine bf_ NB740_769 ?_; refine bf_ NB740_769 ?_; exact BK740.out⟩
      have n6_ : Aside0 ((((w53.setCell ⟨gb769, 0, none⟩ (.bool t764)).setCell ⟨gb769, 1, none⟩ (.slice Ao55 t765.length co55)).setCell ⟨gb769, 2, none⟩ (.int .i64 t768)).heap[gb741]? = some (.cells #[.bool a1_0, .slice A1_1 l1_1.length c1_1] 24 (0, 0))) := ⟨by refine kb_ ?_; refine bf_ NB741_769 ?_; refine bf_ NB741_769 ?_; refine bf_ NB741_769 ?_; exact BK741.out⟩
      have n7_ : Aside0 ((((w53.setCell ⟨gb769, 0, none⟩ (.bool t764)).setCell ⟨gb769, 1, none⟩ (.slice Ao55 t765.length co55)).setCell ⟨gb769, 2, none⟩ (.int .i64 t768)).heap[gb749]? = some (.cells #[.bool t745, .slice Ao37 t746.length co37] 24 (0, 0))) := ⟨by refine kb_ ?_; refine bf_ NB749_769 ?_; refine bf_ NB749_769 ?_; refine bf_ NB749_769 ?_; exact BK749.out⟩
      have n8_ : Aside0 ((((w53.setCell ⟨gb769, 0, none⟩ (.bool t764)).setCell ⟨gb769, 1, none⟩ (.slice Ao55 t765.length co55)).setCell ⟨gb769, 2, none⟩ (.int .i64 t768)).heap[gb755]? = some (.cells #[.bool t750, .slice Ao44 t751.length co44, .int .i64 t754] 27 (0, 0))) := ⟨by refine kb_ ?_; refine bf_ NB755_769 ?_; refine bf_ NB755_769 ?_; refine bf_ NB755_769 ?_; exact BK755.out⟩
      have n9_ : Aside0 ((((w53.setCell ⟨gb769, 0, none⟩ (.bool t764)).setCell ⟨gb769, 1, none⟩ (.slice Ao55 t765.length co55)).setCell ⟨gb769, 2, none⟩ (.int .i64 t768)).heap[gb769]? = some (.cells #[.bool t764, .slice Ao55 t765.length co55, .int .i64 t768] 27 (0, 0))) := ⟨by refine kb_ ?_; refine bp_ #[.bool t764, .slice Ao55 t765.length co55, .int .i64 0] 2 ?_; refine bp_ #[.bool t764, .slice none 0 0, .int .i64 0] 1 ?_; refine bp_ #[.bool false, .slice none 0 0, .int .i64 0] 0 ?_; exact BK769.out⟩
      have n10_ : Aside0 (Below w.heap.size w (((w53.setCell ⟨gb769, 0, none⟩ (.bool t764)).setCell ⟨gb769, 1, none⟩ (.slice Ao55 t765.length co55)).setCell ⟨gb769, 2, none⟩ (.int .i64 t768))) := ⟨bw_ HB.out⟩
      (try clear HO748)
      (try clear HO753)
      (try clear HO759)
      (try clear HO763)
      (try clear HO767)
      (try clear BK740)
      (try clear BK741)
      (try clear BK749)
      (try clear BK755)
      (try clear BK769)
      (try clear HB)
      generalize (((w53.setCell ⟨gb769, 0, none⟩ (.bool t764)).setCell ⟨gb769, 1, none⟩ (.slice Ao55 t765.length co55)).setCell ⟨gb769, 2, none⟩ (.int .i64 t768)) = w58 at n0_ n1_ n2_ n3_ n4_ n5_ n6_ n7_ n8_ n9_ n10_ ⊢
      have HO748 := n0_
      have HO753 := n1_
      have HO759 := n2_
      have HO763 := n3_
      have HO767 := n4_
      have BK740 := n5_
      have BK741 := n6_
      have BK749 := n7_
      have BK755 := n8_
      have BK769 := n9_
      have HB := n10_
      clear n0_ n1_ n2_ n3_ n4_ n5_ n6_ n7_ n8_ n9_ n10_
      replace HO748 := Aside0.mk (Kd.R_drew HO748.out)
      replace HO753 := Aside0.mk (Kd.R_drew HO753.out)
      replace HO759 := Aside0.mk (Kd.R_drew HO759.out)
      replace HO763 := Aside0.mk (Kd.R_drew HO763.out)
      replace HO767 := Aside0.mk (Kd.R_drew HO767.out)
      replace BK740 := Aside0.mk (blk_drew BK740.out)
      replace BK741 := Aside0.mk (blk_drew BK741.out)
      replace BK749 := Aside0.mk (blk_drew BK749.out)
      replace BK755 := Aside0.mk (blk_drew BK755.out)
      replace BK769 := Aside0.mk (blk_drew BK769.out)
      replace HB := Aside0.mk (below_drew1 HB.out)
      refine start_ (n := 18) (S := fun w' => w'.cell? ⟨gb755, 0, none⟩ = some (.bool t750) ∧ w'.cell? ⟨gb755, 1, none⟩ = some (.slice Ao44 t751.length co44) ∧ w'.cell? ⟨gb755, 2, none⟩ = some (.int .i64 t754) ∧ w'.cell? ⟨gb740, 0, none⟩ = some (.bool a0_0) ∧ w'.cell? ⟨gb740, 1, none⟩ = some (.slice A0_1 l0_1.length c0_1) ∧ w'.cell? ⟨gb740, 2, none⟩ = some (.int .i64 a0_2) ∧ w'.cell? ⟨gb769, 0, none⟩ = some (.bool t764) ∧ w'.cell? ⟨gb769, 1, none⟩ = some (.slice Ao55 t765.length co55) ∧ w'.cell? ⟨gb769, 2, none⟩ = some (.int .i64 t768) ∧ w'.cell? ⟨gb741, 0, none⟩ = some (.bool a1_0) ∧ w'.cell? ⟨gb741, 1, none⟩ = some (.slice A1_1 l1_1.length c1_1)) (ds := []) #[false, false, false, false, false, false, false, false, false, false, false, false, false, false, false, false, false, false] (by kernel_rfl) rfl rfl ⟨(blk_cell BK755.out 0).trans rfl, (blk_cell BK755.out 1).trans rfl, (blk_cell BK755.out 2).trans rfl, (blk_cell BK740.out 0).trans rfl, (blk_cell BK740.out 1).trans rfl, (blk_cell BK740.out 2).trans rfl, (blk_cell BK769.out 0).trans rfl, (blk_cell BK769.out 1).trans rfl, (blk_cell BK769.out 2).trans rfl, (blk_cell BK741.out 0).trans rfl, (blk_cell BK741.out 1).trans rfl⟩ (fun hHeld => ?_); refine with_tabW peloruslaw03_DyFloors.tab9 peloruslaw03_DyFloors.bits9 (fun HT_ HW_ => ?_)
      generalize w58.drew = w59 at HO748 HO753 HO759 HO763 HO767 BK740 BK741 BK749 BK755 BK769 HB hHeld ⊢
      refine take_ (i := 0) (N := some 35) (v := ?_) (a' := ?_) #[true, false, false, false, false, false, false, false, false, false, false, false, false, false, false, false, false, false] rfl rfl (take_ofW HT_.out HW_.out (by kernel_rfl)) (fun _ _ _ h => h) (Or.inl ⟨by rfl, ?_⟩) hHeld ?_ ?_
      rotate_left
      ·rintro w' ⟨s0, s1, s2, s3, s4, s5, s6, s7, s8, s9, s10⟩
       go_simp
       with_reducible rfl
      rotate_left
      ·exact pt_
      refine take_ (i := 1) (N := some 36) (v := ?_) (a' := ?_) #[true, true, false, false, false, false, false, false, false, false, false, false, false, false, false, false, false, false] rfl rfl (take_ofW HT_.out HW_.out (by kernel_rfl)) (fun _ _ _ h => h) (Or.inl ⟨by rfl, ?_⟩) hHeld ?_ ?_
      rotate_left
      ·rintro w' ⟨s0, s1, s2, s3, s4, s5, s6, s7, s8, s9, s10⟩
       go_simp
       with_reducible rfl
      rotate_left
      ·exact pt_
      refine one_ (i := 2) (N := some 37) #[true, true, true, false, false, false, false, false, false, false, false, false, false, false, false, false, false, false] rfl rfl (one_of HT_.out (by kernel_rfl)) (by decide) (fun K hK => ?_)
      refine gs_ Tryd.func20 #[.agg #[.bool t750, .slice Ao44 t751.length co44, .int .i64 t754], .agg #[.bool a0_0, .slice A0_1 l0_1.length c0_1, .int .i64 a0_2]] ?_
      with_reducible refine (dy_Cmp.calls kj5 t750 _ _ t751 t754 a0_0 _ _ l0_1 a0_2 t770 _ ?side1 ?side2 ?side3 ?side4 A23.out ?sidet).mono ?_
      (case sidet => exact Kd.C_below HTAB.out (bw_ HB.out))
      (case side1 => exact kc_ (Kd.R_reads' HO753.out).2.2)
      (case side2 => exact (Kd.R_reads' HO753.out).2.1)
      (case side3 => exact kc_ (Kd.C_below HR0_1.out HB.out))
      (case side4 => exact HC0_1.out)
      rintro e w60 ⟨rfl, hb⟩
      refine ⟨_, rfl, ?_⟩
      replace HO748 := Aside0.mk (Kd.R_below (kr_ HO748.out) hb)
      replace HO753 := Aside0.mk (Kd.R_below (kr_ HO753.out) hb)
      replace HO759 := Aside0.mk (Kd.R_below (kr_ HO759.out) hb)
      replace HO763 := Aside0.mk (Kd.R_below (kr_ HO763.out) hb)
      replace HO767 := Aside0.mk (Kd.R_below (kr_ HO767.out) hb)
      replace BK740 := kq_ BK740 hb
      replace BK741 := kq_ BK741 hb
      replace BK749 := kq_ BK749 hb
      replace BK755 := kq_ BK755 hb
      replace BK769 := kq_ BK769 hb
      replace HB := bq_ HB hb
      (try clear hb)
      (try clear hb2)
      (try clear hk)
      (try clear hi)
      refine hK.out _ _ ⟨(blk_cell BK755.out 0).trans rfl, (blk_cell BK755.out 1).trans rfl, (blk_cell BK755.out 2).trans rfl, (blk_cell BK740.out 0).trans rfl, (blk_cell BK740.out 1).trans rfl, (blk_cell BK740.out 2).trans rfl, (blk_cell BK769.out 0).trans rfl, (blk_cell BK769.out 1).trans rfl, (blk_cell BK769.out 2).trans rfl, (blk_cell BK741.out 0).trans rfl, (blk_cell BK741.out 1).trans rfl⟩ (fun hHeld => ?_)
      clear hK K
      refine norm_ (a' := ?_) ?_ ?_
      rotate_left
      ·show Act.put _ (some 37) _ = _
       exact pt_
      refine pure_ (i := 3) (N := some 38) (v := ?_) (a' := ?_) #[true, true, true, true, false, false, false, false, false, false, false, false, false, false, false, false, false, false] rfl rfl (any_of HT_.out (by kernel_rfl)) (fun _ _ _ h => h) (Or.inl ⟨by rfl, ?_⟩) ?_ ?_
      rotate_left
      ·intro w'
       go_simp
       with_reducible rfl
      rotate_left
      ·exact pt_
      refine pure_ (i := 4) (N := some 39) (v := ?_) (a' := ?_) #[true, true, true, true, true, false, false, false, false, false, false, false, false, false, false, false, false, false] rfl rfl (any_of HT_.out (by kernel_rfl)) (fun _ _ _ h => h) (Or.inl ⟨by rfl, ?_⟩) ?_ ?_
      rotate_left
      ·intro w'
       go_simp
       with_reducible rfl
      rotate_left
      ·exact pt_
      refine take_ (i := 5) (N := some 40) (v := ?_) (a' := ?_) #[true, true, true, true, true, true, false, false, false, false, false, false, false, false, false, false, false, false] rfl rfl (take_ofW HT_.out HW_.out (by kernel_rfl)) (fun _ _ _ h => h) (Or.inl ⟨by rfl, ?_⟩) hHeld ?_ ?_
      rotate_left
      ·rintro w' ⟨s0, s1, s2, s3, s4, s5, s6, s7, s8, s9, s10⟩
       go_simp
       with_reducible rfl
      rotate_left
      ·exact pt_
      refine take_ (i := 6) (N := some 41) (v := ?_) (a' := ?_) #[true, true, true, true, true, true, true, false, false, false, false, false, false, false, false, false, false, false] rfl rfl (take_ofW HT_.out HW_.out (by kernel_rfl)) (fun _ _ _ h => h) (Or.inl ⟨by rfl, ?_⟩) hHeld ?_ ?_
      rotate_left
      ·rintro w' ⟨s0, s1, s2, s3, s4, s5, s6, s7, s8, s9, s10⟩
       go_simp
       with_reducible rfl
      rotate_left
      ·exact pt_
      refine one_ (i := 7) (N := some 42) #[true, true, true, true, true, true, true, true, false, false, false, false, false, false, false, false, false, false] rfl rfl (one_of HT_.out (by kernel_rfl)) (by decide) (fun K hK => ?_)
      refine gs_ Tryd.func20 #[.agg #[.bool t764, .slice Ao55 t765.length co55, .int .i64 t768], .agg #[.bool a0_0, .slice A0_1 l0_1.length c0_1, .int .i64 a0_2]] ?_
      with_reducible refine (dy_Cmp.calls kj5 t764 _ _ t765 t768 a0_0 _ _ l0_1 a0_2 t771 _ ?side1 ?side2 ?side3 ?side4 A25.out ?sidet).mono ?_
      (case sidet => exact Kd.C_below HTAB.out (bw_ HB.out))
      (case side1 => exact kc_ (Kd.R_reads' HO767.out).2.2)
      (case side2 => exact (Kd.R_reads' HO767.out).2.1)
      (case side3 => exact kc_ (Kd.C_below HR0_1.out HB.out))
      (case side4 => exact HC0_1.out)
      rintro e w61 ⟨rfl, hb⟩
      refine ⟨_, rfl, ?_⟩
      replace HO748 := Aside0.mk (Kd.R_below (kr_ HO748.out) hb)
      replace HO753 := Aside0.mk (Kd.R_below (kr_ HO753.out) hb)
      replace HO759 := Aside0.mk (Kd.R_below (kr_ HO759.out) hb)
      replace HO763 := Aside0.mk (Kd.R_below (kr_ HO763.out) hb)
      replace HO767 := Aside0.mk (Kd.R_below (kr_ HO767.out) hb)
      replace BK740 := kq_ BK740 hb
      replace BK741 := kq_ BK741 hb
      replace BK749 := kq_ BK749 hb
      replace BK755 := kq_ BK755 hb
      replace BK769 := kq_ BK769 hb
      replace HB := bq_ HB hb
      (try clear hb)
      (try clear hb2)
      (try clear hk)
      (try clear hi)
      refine hK.out _ _ ⟨(blk_cell BK755.out 0).trans rfl, (blk_cell BK755.out 1).trans rfl, (blk_cell BK755.out 2).trans rfl, (blk_cell BK740.out 0).trans rfl, (blk_cell BK740.out 1).trans rfl, (blk_cell BK740.out 2).trans rfl, (blk_cell BK769.out 0).trans rfl, (blk_cell BK769.out 1).trans rfl, (blk_cell BK769.out 2).trans rfl, (blk_cell BK741.out 0).trans rfl, (blk_cell BK741.out 1).trans rfl⟩ (fun hHeld => ?_)
      clear hK K
      refine norm_ (a' := ?_) ?_ ?_
      rotate_left
      ·show Act.put _ (some 42) _ = _
       exact pt_
      refine pure_ (i := 8) (N := some 43) (v := ?_) (a' := ?_) #[true, true, true, true, true, true, true, true, true, false, false, false, false, false, false, false, false, false] rfl rfl (any_of HT_.out (by kernel_rfl)) (fun _ _ _ h => h) (Or.inl ⟨by rfl, ?_⟩) ?_ ?_
      rotate_left
      ·intro w'
       go_simp
       with_reducible rfl
      rotate_left
      ·exact pt_
      refine pure_ (i := 9) (N := some 44) (v := ?_) (a' := ?_) #[true, true, true, true, true, true, true, true, true, true, false, false, false, false, false, false, false, false] rfl rfl (any_of HT_.out (by kernel_rfl)) (fun _ _ _ h => h) (Or.inl ⟨by rfl, ?_⟩) ?_ ?_
      rotate_left
      ·intro w'
       go_simp
       with_reducible rfl
      rotate_left
      ·exact pt_
      refine pure_ (i := 10) (N := some 45) (v := ?_) (a' := ?_) #[true, true, true, true, true, true, true, true, true, true, true, false, false, false, false, false, false, false] rfl rfl (any_of HT_.out (by kernel_rfl)) (fun _ _ _ h => h) (Or.inl ⟨by rfl, ?_⟩) ?_ ?_
      rotate_left
      ·intro w'
       go_simp
       with_reducible rfl
      rotate_left
      ·exact pt_
      refine take_ (i := 11) (N := some 46) (v := ?_) (a' := ?_) #[true, true, true, true, true, true, true, true, true, true, true, true, false, false, false, false, false, false] rfl rfl (take_ofW HT_.out HW_.out (by kernel_rfl)) (fun _ _ _ h => h) (Or.inl ⟨by rfl, ?_⟩) hHeld ?_ ?_
      rotate_left
      ·rintro w' ⟨s0, s1, s2, s3, s4, s5, s6, s7, s8, s9, s10⟩
       go_simp
       with_reducible rfl
      rotate_left
      ·exact pt_
      refine take_ (i := 14) (N := some 49) (v := ?_) (a' := ?_) #[true, true, true, true, true, true, true, true, true, true, true, true, false, false, true, false, false, false] rfl rfl (take_ofW HT_.out HW_.out (by kernel_rfl)) (fun _ _ _ h => h) (Or.inl ⟨by rfl, ?_⟩) hHeld ?_ ?_
      rotate_left
      ·rintro w' ⟨s0, s1, s2, s3, s4, s5, s6, s7, s8, s9, s10⟩
       go_simp
       with_reducible rfl
      rotate_left
      ·exact pt_
      refine one_ (i := 12) (N := some 47) #[true, true, true, true, true, true, true, true, true, true, true, true, true, false, true, false, false, false] rfl rfl (one_of HT_.out (by kernel_rfl)) (by decide) (fun K hK => ?_)
      refine gs_ Tryd.func10 #[.agg #[.bool a1_0, .slice A1_1 l1_1.length c1_1], .int .i64 0] ?_
      with_reducible refine (dy_Make.calls kj5 a1_0 _ _ l1_1 0 t772 t773 t776 _ ?side1 ?side2 A27.out ?sidet).mono ?_
      (case sidet => exact Kd.C_below HTAB.out (bw_ HB.out))
      (case side1 => exact kc_ (Kd.C_below HR1_1.out HB.out))
      (case side2 => exact HC1_1.out)
      rintro e w62 ⟨v774, rfl, ho0, hb⟩
      refine ⟨_, rfl, ?_⟩
      have HO775 := Aside0.mk (Kd.R_lower (Kd.R_new' (Kd.R_new' (Kd.R_new' (Kd.R_new' (Kd.R_new' ho0 (Kd.R_lt (kr_ HO748.out))) (Kd.R_lt (kr_ HO753.out))) (Kd.R_lt (kr_ HO759.out))) (Kd.R_lt (kr_ HO763.out))) (Kd.R_lt (kr_ HO767.out))) (below_size (bw_ HB.out)))
      replace HO748 := Aside0.mk (Kd.R_elder' (kr_ HO748.out) (Kd.R_base ho0) hb)
      replace HO753 := Aside0.mk (Kd.R_elder' (kr_ HO753.out) (Kd.R_base ho0) hb)
      replace HO759 := Aside0.mk (Kd.R_elder' (kr_ HO759.out) (Kd.R_base ho0) hb)
      replace HO763 := Aside0.mk (Kd.R_elder' (kr_ HO763.out) (Kd.R_base ho0) hb)
      replace HO767 := Aside0.mk (Kd.R_elder' (kr_ HO767.out) (Kd.R_base ho0) hb)
      replace BK740 := kq_ BK740 hb
      replace BK741 := kq_ BK741 hb
      replace BK749 := kq_ BK749 hb
      replace BK755 := kq_ BK755 hb
      replace BK769 := kq_ BK769 hb
      replace HB := bq_ HB hb
      (try clear hb)
      (try clear hb2)
      (try clear hk)
      (try clear hi)
      (try clear ho0)
      obtain ⟨Ao63, co63, eo63⟩ := Kd.R_slice HO775.out
      (first | subst eo63 | (injection eo63 with f1_ f2_ f3_; have f4_ := f1_.symm; have f5_ := f3_.symm; clear f1_ f2_ f3_; subst f4_; subst f5_))
      refine hK.out _ _ ⟨(blk_cell BK755.out 0).trans rfl, (blk_cell BK755.out 1).trans rfl, (blk_cell BK755.out 2).trans rfl, (blk_cell BK740.out 0).trans rfl, (blk_cell BK740.out 1).trans rfl, (blk_cell BK740.out 2).trans rfl, (blk_cell BK769.out 0).trans rfl, (blk_cell BK769.out 1).trans rfl, (blk_cell BK769.out 2).trans rfl, (blk_cell BK741.out 0).trans rfl, (blk_cell BK741.out 1).trans rfl⟩ (fun hHeld => ?_)
      clear hK K
      refine norm_ (a' := ?_) ?_ ?_
      rotate_left
      ·show Act.put _ (some 47) _ = _
       exact pt_
      refine one_ (i := 13) (N := some 48) #[true, true, true, true, true, true, true, true, true, true, true, true, true, true, true, false, false, false] rfl rfl (one_of HT_.out (by kernel_rfl)) (by decide) (fun K hK => ?_)
      refine gs_ Tryd.func23 #[.agg #[.bool t772, .slice Ao63 t773.length co63, .int .i64 t776]] ?_
      with_reducible refine (dy_Floor.calls kj5 t772 _ _ t773 t776 t777 t778 _ ?side1 ?side2 A28.out ?sidet).mono ?_
      (case sidet => exact Kd.C_below HTAB.out (bw_ HB.out))
      (case side1 => exact kc_ (Kd.R_reads' HO775.out).2.2)
      (case side2 => exact (Kd.R_reads' HO775.out).2.1)
      rintro e w64 ⟨v779, rfl, ho0, hb⟩
      refine ⟨_, rfl, ?_⟩
      have HO780 := Aside0.mk (Kd.R_lower (Kd.R_new' (Kd.R_new' (Kd.R_new' (Kd.R_new' (Kd.R_new' (Kd.R_new' ho0 (Kd.R_lt (kr_ HO748.out))) (Kd.R_lt (kr_ HO753.out))) (Kd.R_lt (kr_ HO759.out))) (Kd.R_lt (kr_ HO763.out))) (Kd.R_lt (kr_ HO767.out))) (Kd.R_lt (kr_ HO775.out))) (below_size (bw_ HB.out)))
      replace HO748 := Aside0.mk (Kd.R_elder' (kr_ HO748.out) (Kd.R_base ho0) hb)
      replace HO753 := Aside0.mk (Kd.R_elder' (kr_ HO753.out) (Kd.R_base ho0) hb)
      replace HO759 := Aside0.mk (Kd.R_elder' (kr_ HO759.out) (Kd.R_base ho0) hb)
      replace HO763 := Aside0.mk (Kd.R_elder' (kr_ HO763.out) (Kd.R_base ho0) hb)
      replace HO767 := Aside0.mk (Kd.R_elder' (kr_ HO767.out) (Kd.R_base ho0) hb)
      replace HO775 := Aside0.mk (Kd.R_elder' (kr_ HO775.out) (Kd.R_base ho0) hb)
      replace BK740 := kq_ BK740 hb
      replace BK741 := kq_ BK741 hb
      replace BK749 := kq_ BK749 hb
      replace BK755 := kq_ BK755 hb
      replace BK769 := kq_ BK769 hb
      replace HB := bq_ HB hb
      (try clear hb)
      (try clear hb2)
      (try clear hk)
      (try clear hi)
      (try clear ho0)
      obtain ⟨Ao65, co65, eo65⟩ := Kd.R_slice HO780.out
      (first | subst eo65 | (injection eo65 with f1_ f2_ f3_; have f4_ := f1_.symm; have f5_ := f3_.symm; clear f1_ f2_ f3_; subst f4_; subst f5_))
      refine hK.out _ _ ⟨(blk_cell BK755.out 0).trans rfl, (blk_cell BK755.out 1).trans rfl, (blk_cell BK755.out 2).trans rfl, (blk_cell BK740.out 0).trans rfl, (blk_cell BK740.out 1).trans rfl, (blk_cell BK740.out 2).trans rfl, (blk_cell BK769.out 0).trans rfl, (blk_cell BK769.out 1).trans rfl, (blk_cell BK769.out 2).trans rfl, (blk_cell BK741.out 0).trans rfl, (blk_cell BK741.out 1).trans rfl⟩ (fun hHeld => ?_)
      clear hK K
      refine norm_ (a' := ?_) ?_ ?_
      rotate_left
      ·show Act.put _ (some 48) _ = _
       exact pt_
      refine one_ (i := 15) (N := some 50) #[true, true, true, true, true, true, true, true, true, true, true, true, true, true, true, true, false, false] rfl rfl (one_of HT_.out (by kernel_rfl)) (by decide) (fun K hK => ?_)
      refine gs_ Tryd.func26 #[.agg #[.bool t777, .slice Ao65 t778.length co65], .agg #[.bool a1_0, .slice A1_1 l1_1.length c1_1]] ?_
      with_reducible refine (whole_Same.calls kj5 t777 _ _ t778 a1_0 _ _ l1_1 t781 _ ?side1 ?side2 ?side3 ?side4 A29.out).mono ?_
      (case side1 => exact kc_ (Kd.R_reads' HO780.out).2.2)
      (case side2 => exact (Kd.R_reads' HO780.out).2.1)
      (case side3 => exact kc_ (Kd.C_below HR1_1.out HB.out))
      (case side4 => exact HC1_1.out)
      rintro e w66 ⟨rfl, hb⟩
      refine ⟨_, rfl, ?_⟩
      replace HO748 := Aside0.mk (Kd.R_below (kr_ HO748.out) hb)
      replace HO753 := Aside0.mk (Kd.R_below (kr_ HO753.out) hb)
      replace HO759 := Aside0.mk (Kd.R_below (kr_ HO759.out) hb)
      replace HO763 := Aside0.mk (Kd.R_below (kr_ HO763.out) hb)
      replace HO767 := Aside0.mk (Kd.R_below (kr_ HO767.out) hb)
      replace HO775 := Aside0.mk (Kd.R_below (kr_ HO775.out) hb)
      replace HO780 := Aside0.mk (Kd.R_below (kr_ HO780.out) hb)
      replace BK740 := kq_ BK740 hb
      replace BK741 := kq_ BK741 hb
      replace BK749 := kq_ BK749 hb
      replace BK755 := kq_ BK755 hb
      replace BK769 := kq_ BK769 hb
      replace HB := bq_ HB hb
      (try clear hb)
      (try clear hb2)
      (try clear hk)
      (try clear hi)
      refine hK.out _ _ ⟨(blk_cell BK755.out 0).trans rfl, (blk_cell BK755.out 1).trans rfl, (blk_cell BK755.out 2).trans rfl, (blk_cell BK740.out 0).trans rfl, (blk_cell BK740.out 1).trans rfl, (blk_cell BK740.out 2).trans rfl, (blk_cell BK769.out 0).trans rfl, (blk_cell BK769.out 1).trans rfl, (blk_cell BK769.out 2).trans rfl, (blk_cell BK741.out 0).trans rfl, (blk_cell BK741.out 1).trans rfl⟩ (fun hHeld => ?_)
      clear hK K
      refine norm_ (a' := ?_) ?_ ?_
      rotate_left
      ·show Act.put _ (some 50) _ = _
       exact pt_
      refine pure_ (i := 16) (N := some 51) (v := ?_) (a' := ?_) #[true, true, true, true, true, true, true, true, true, true, true, true, true, true, true, true, true, false] rfl rfl (any_of HT_.out (by kernel_rfl)) (fun _ _ _ h => h) (Or.inl ⟨by rfl, ?_⟩) ?_ ?_
      rotate_left
      ·intro w'
       go_simp
       with_reducible rfl
      rotate_left
      ·exact pt_
      refine pure_ (i := 17) (N := some 4) (v := ?_) (a' := ?_) #[true, true, true, true, true, true, true, true, true, true, true, true, true, true, true, true, true, true] rfl rfl (any_of HT_.out (by kernel_rfl)) (fun _ _ _ h => h) (Or.inl ⟨by rfl, ?_⟩) ?_ ?_
      rotate_left
      ·intro w'
       go_simp
       with_reducible rfl
      rotate_left
      ·exact pt_
      refine done_ (done_of HT_.out (by kernel_rfl)) ?_
      try go_wp2
      go_ret
      exact ⟨rf_, bw_ HB.out⟩
     ·rw [if_neg c26] at H
      have c26b0 : decide (0 < t771) = false := decide_eq_false c26
      clear c26
      exact absurd ((Option.some.inj H).trans HRT_.out) (by simp)
    ·rw [if_neg c24] at H
     have c24b0 : decide (t770 ≤ 0) = false := decide_eq_false c24
     clear c24
     exact absurd ((Option.some.inj H).trans HRT_.out) (by simp)


end Go.Proofs.YtaookeneeemfbaaDoor.PA
