-- Laid by this work's own program; Lean checks it.
import Derived.Test.YthlhogcnfaiphaaDoorPAx0
import Derived.Test.YthlhogcnfaiphaaDoorPAx1
import Derived.Test.YthlhogcnfaiphaaDoorPAx2
import Derived.Test.YthlhogcnfaiphaaDoorPAx6
import Derived.Test.YthlhogcnfaiphaaDoorPAx8
import Derived.Test.YthlhogcnfaiphaaDoorPAx13
namespace Go.Proofs.YthlhogcnfaiphaaDoor.PA
open Go.RowKit Go.Proofs.YthlhogcnfaiphaaDoorW.PrintWords Go.Proofs.YthlhogcnfaiphaaDoorW.PrintLast Go.Proofs.YthlhogcnfaiphaaDoorW.PrintMore
attribute [local go_sem] max2_int min2_int max_two min_two max_three min_three max_four min_four   -- for this text's walks alone
set_option linter.unusedVariables false
set_option linter.unusedSimpArgs false

attribute [local go_sem ↓ high] isSome_set_
attribute [local go_sem high] eqA24
/-! ### peloruslaw06_holds: function 9 -/
theorem peloruslaw06_holds.tab5 : rtab .any (opsOf Tryd.f9 5) = peloruslaw06_holds.T5 := by kernel_rfl
theorem peloruslaw06_holds.bits5 : waitsOk peloruslaw06_holds.T5.2 peloruslaw06_holds.B5 = true := by kernel_rfl
set_option maxHeartbeats 8000000 in
set_option maxRecDepth 100000 in
theorem peloruslaw06_holds.calls (k : Nat) (a0_0 : Bool) (A0_1 : Option Addr) (c0_1 : Nat) (l0_1 : List Int) (a0_2 : Int) (a1_0 : Int) (a1_1 : Bool) (a1_2 : Int) (a1_3 : Int) (a2_0 : Int) (a2_1 : Bool) (a2_2 : Int) (a2_3 : Int) (r : Bool) (w : World) (hr0_1 : Kd.C (Kd.int .u32) w A0_1 l0_1.length l0_1) (hc0_1 : l0_1.length ≤ c0_1) (h : peloruslaw06_holds.f k a0_0 l0_1 a0_2 a1_0 a1_1 a1_2 a1_3 a2_0 a2_1 a2_2 a2_3 = some r) (htab_ : Kd.C (Kd.int .u8) w (some ⟨0, 0, none⟩) 32 tz32tab) :
  Calls Tryd.prog 9 #[.agg #[.bool a0_0, .slice A0_1 l0_1.length c0_1, .int .i64 a0_2], .agg #[.int .i64 a1_0, .bool a1_1, .int .u64 a1_2, .int .i64 a1_3], .agg #[.int .i64 a2_0, .bool a2_1, .int .u64 a2_2, .int .i64 a2_3]] w fun e w' => e = .returned (.bool r) ∧ Below w.heap.size w w' := by
 have HTAB := Aside0.mk htab_
 clear htab_
 have hu31 := Tryd.underlying31
 have hu24 := Tryd.underlying24
 have HR0_1 := Aside0.mk hr0_1
 have HC0_1 := Aside0.mk hc0_1
 clear hr0_1 hc0_1
 have HB := Aside0.mk (Below.refl w.heap.size w)
 have H : ((num_Exact.f k a1_0 a1_1 a1_2 a1_3).bind fun bt661 => ((num_Exact.f k a2_0 a2_1 a2_2 a2_3).bind fun bt668 => (if bt661.2.2.2 = true then (if bt668.2.2.2 = true then ((dy_Cmp.f k bt661.1 bt661.2.1 bt661.2.2.1 a0_0 l0_1 a0_2).bind fun t675 => (if t675 > 0 then (peloruslaw06_holds.j0 k true a0_0 l0_1 a0_2 a1_0 a1_1 a1_2 a1_3 a2_0 a2_1 a2_2 a2_3 bt661.1 bt661.2.1 bt661.2.2.1 bt668.1 bt668.2.1 bt668.2.2.1) else ((dy_Cmp.f k bt668.1 bt668.2.1 bt668.2.2.1 a0_0 l0_1 a0_2).bind fun t676 => (peloruslaw06_holds.j0 k (decide (t676 < 0)) a0_0 l0_1 a0_2 a1_0 a1_1 a1_2 a1_3 a2_0 a2_1 a2_2 a2_3 bt661.1 bt661.2.1 bt661.2.2.1 bt668.1 bt668.2.1 bt668.2.2.1)))) else (peloruslaw06_holds.j0 k true a0_0 l0_1 a0_2 a1_0 a1_1 a1_2 a1_3 a2_0 a2_1 a2_2 a2_3 bt661.1 bt661.2.1 bt661.2.2.1 bt668.1 bt668.2.1 bt668.2.2.1)) else (peloruslaw06_holds.j0 k true a0_0 l0_1 a0_2 a1_0 a1_1 a1_2 a1_3 a2_0 a2_1 a2_2 a2_3 bt661.1 bt661.2.1 bt661.2.2.1 bt668.1 bt668.2.1 bt668.2.2.1)))) = some r := h
 clear h
 replace H := Option.bind_eq_some_iff.mp H
 obtain ⟨⟨t661, t662, t665, t666⟩, A40, H⟩ := H
 (try dsimp only at H)
 have A4 := Aside0.mk A40
 clear A40
 replace H := Option.bind_eq_some_iff.mp H
 obtain ⟨⟨t668, t669, t672, t673⟩, A50, H⟩ := H
 (try dsimp only at H)
 have A5 := Aside0.mk A50
 clear A50
 have HC6 := Aside0.mk H
 clear H
 go_enter Tryd.func9, Tryd.ntmps9
 go_upto_region 3 with (first | ((with_reducible refine gate_dst (N := 3) rfl ?_); refine bx_ 3 #[.bool a0_0, .slice A0_1 l0_1.length c0_1, .int .i64 a0_2] 31 ?_; intro gb658 hg w7 hbox hb; have BK658 := Aside0.mk (hbox); have GW658 := ge_ hg HB; have GE658 := ge_ hg HB; replace HB := bq_ HB hb; clear hb hbox hg) | ((with_reducible refine gate_dst (N := 4) rfl ?_); refine bx_ 4 #[.int .i64 a1_0, .bool a1_1, .int .u64 a1_2, .int .i64 a1_3] 24 ?_; intro gb659 hg w8 hbox hb; have BK659 := Aside0.mk (hbox); have GW659 := ge_ hg HB; have GE659 := ge_ hg HB; have NB658_659 := nb_ hg BK658; have NB659_658 := nc_ hg BK658; replace BK658 := kq_ BK658 hb; replace HB := bq_ HB hb; clear hb hbox hg) | ((with_reducible refine gate_dst (N := 5) rfl ?_); refine bx_ 5 #[.int .i64 a2_0, .bool a2_1, .int .u64 a2_2, .int .i64 a2_3] 24 ?_; intro gb660 hg w9 hbox hb; have BK660 := Aside0.mk (hbox); have GW660 := ge_ hg HB; have GE660 := ge_ hg HB; have NB658_660 := nb_ hg BK658; have NB660_658 := nc_ hg BK658; have NB659_660 := nb_ hg BK659; have NB660_659 := nc_ hg BK659; replace BK658 := kq_ BK658 hb; replace BK659 := kq_ BK659 hb; replace HB := bq_ HB hb; clear hb hbox hg; have hnb10 := NB659_658.out; have hnc10 := NB658_659.out; have hnb11 := NB659_660.out; have hnc11 := NB660_659.out; obtain ⟨hcz12_0, hcz12_1, hcz12_2, hcz12_3, hfz12_0, hfz12_1, hfz12_2, hfz12_3⟩ := c4_ BK659) | ((with_reducible refine gate_callee (f := 6) rfl ?_); refine gl_ (some 13) Tryd.func6 #[.agg #[.int .i64 a1_0, .bool a1_1, .int .u64 a1_2, .int .i64 a1_3]] ?_; (with_reducible refine (num_Exact.calls k a1_0 a1_1 a1_2 a1_3 t661 t662 t665 t666 _ A4.out ?sidet).mono ?_); (case sidet => exact Kd.C_below HTAB.out (bw_ HB.out)); rintro e w13 ⟨v663, rfl, ho0, hb⟩; refine ⟨_, rfl, ?_⟩; have HO664 := Aside0.mk (Kd.R_lower ho0 (below_size (bw_ HB.out))); replace BK658 := kq_ BK658 hb; replace BK659 := kq_ BK659 hb; replace BK660 := kq_ BK660 hb; replace HB := bq_ HB hb; (try clear hb); (try clear hb2); (try clear hk); (try clear hi); (try clear ho0)) | ((with_reducible refine gate_dst (N := 7) rfl ?_); refine bx_ 7 #[.bool false, .slice none 0 0, .int .i64 0] 31 ?_; intro gb667 hg w14 hbox hb; have BK667 := Aside0.mk (hbox); have GW667 := ge_ hg HB; have GE667 := ge_ hg HB; have NB658_667 := nb_ hg BK658; have NB667_658 := nc_ hg BK658; have NB659_667 := nb_ hg BK659; have NB667_659 := nc_ hg BK659; have NB660_667 := nb_ hg BK660; have NB667_660 := nc_ hg BK660; replace HO664 := Aside0.mk (Kd.R_below (kr_ HO664.out) hb); replace BK658 := kq_ BK658 hb; replace BK659 := kq_ BK659 hb; replace BK660 := kq_ BK660 hb; replace HB := bq_ HB hb; clear hb hbox hg; have hnb15 := NB667_658.out; have hnc15 := NB658_667.out; have hnb16 := NB667_659.out; have hnc16 := NB659_667.out; have hnb17 := NB667_660.out; have hnc17 := NB660_667.out; obtain ⟨hcz18_0, hcz18_1, hcz18_2, hfz18_0, hfz18_1, hfz18_2⟩ := c3_ BK667; obtain ⟨Ao19, co19, eo19⟩ := Kd.R_slice HO664.out; subst eo19; have hnb20 := NB660_658.out; have hnc20 := NB658_660.out; obtain ⟨hcz21_0, hcz21_1, hcz21_2, hcz21_3, hfz21_0, hfz21_1, hfz21_2, hfz21_3⟩ := c4_ BK660) | ((with_reducible refine gate_callee (f := 6) rfl ?_); refine gl_ (some 18) Tryd.func6 #[.agg #[.int .i64 a2_0, .bool a2_1, .int .u64 a2_2, .int .i64 a2_3]] ?_; (with_reducible refine (num_Exact.calls k a2_0 a2_1 a2_2 a2_3 t668 t669 t672 t673 _ A5.out ?sidet).mono ?_); (case sidet => exact Kd.C_below HTAB.out (bw_ HB.out)); rintro e w22 ⟨v670, rfl, ho0, hb⟩; refine ⟨_, rfl, ?_⟩; have n0_ := Aside0.mk (Kd.R_elder' (kr_ ((Kd.R_mono (Kd.R_far (p := ⟨gb667, 2, none⟩) (Kd.R_far (p := ⟨gb667, 1, none⟩) (Kd.R_far (p := ⟨gb667, 0, none⟩) (Kd.R_types HO664.out BK667.out (by decide)) (fun _ hk => hk.2) (.bool t661)) (fun _ hk => hk.2) (.slice Ao19 t662.length co19)) (fun _ hk => hk.2) (.int .i64 t665)) (fun _ h_ => h_.1)))) (Kd.R_base ho0) hb); have n1_ := Aside0.mk (Kd.R_lower (Kd.R_new' ho0 (Kd.R_lt (kr_ ((Kd.R_mono (Kd.R_far (p := ⟨gb667, 2, none⟩) (Kd.R_far (p := ⟨gb667, 1, none⟩) (Kd.R_far (p := ⟨gb667, 0, none⟩) (Kd.R_types HO664.out BK667.out (by decide)) (fun _ hk => hk.2) (.bool t661)) (fun _ hk => hk.2) (.slice Ao19 t662.length co19)) (fun _ hk => hk.2) (.int .i64 t665)) (fun _ h_ => h_.1)))))) (below_size (bw_ HB.out))); have n2_ := Aside0.mk (blk_below (g := gb658) (o := .cells #[.bool a0_0, .slice A0_1 l0_1.length c0_1, .int .i64 a0_2] 31 (0, 0)) (by refine kb_ ?_; refine bf_ NB658_667 ?_; refine bf_ NB658_667 ?_; refine bf_ NB658_667 ?_; exact BK658.out) hb); have n3_ := Aside0.mk (blk_below (g := gb659) (o := .cells #[.int .i64 a1_0, .bool a1_1, .int .u64 a1_2, .int .i64 a1_3] 24 (0, 0)) (by refine kb_ ?_; refine bf_ NB659_667 ?_; refine bf_ NB659_667 ?_; refine bf_ NB659_667 ?_; exact BK659.out) hb); have n4_ := Aside0.mk (blk_below (g := gb660) (o := .cells #[.int .i64 a2_0, .bool a2_1, .int .u64 a2_2, .int .i64 a2_3] 24 (0, 0)) (by refine kb_ ?_; refine bf_ NB660_667 ?_; refine bf_ NB660_667 ?_; refine bf_ NB660_667 ?_; exact BK660.out) hb); have n5_ := Aside0.mk (blk_below (g := gb667) (o := .cells #[.bool t661, .slice Ao19 t662.length co19, .int .i64 t665] 31 (0, 0)) (by refine kb_ ?_; refine bp_ #[.bool t661, .slice Ao19 t662.length co19, .int .i64 0] 2 ?_; refine bp_ #[.bool t661, .slice none 0 0, .int .i64 0] 1 ?_; refine bp_ #[.bool false, .slice none 0 0, .int .i64 0] 0 ?_; exact BK667.out) hb); have n6_ := bq_ HB hb; clear HO664; clear BK658; clear BK659; clear BK660; clear BK667; clear HB; have HO664 := n0_; have HO671 := n1_; have BK658 := n2_; have BK659 := n3_; have BK660 := n4_; have BK667 := n5_; have HB := n6_; clear n0_ n1_ n2_ n3_ n4_ n5_ n6_; (try clear hb); (try clear hb2); (try clear hk); (try clear hi); (try clear ho0)) | ((with_reducible refine gate_dst (N := 9) rfl ?_); refine bx_ 9 #[.bool false, .slice none 0 0, .int .i64 0] 31 ?_; intro gb674 hg w23 hbox hb; have BK674 := Aside0.mk (hbox); have GW674 := ge_ hg HB; have GE674 := ge_ hg HB; have NB658_674 := nb_ hg BK658; have NB674_658 := nc_ hg BK658; have NB659_674 := nb_ hg BK659; have NB674_659 := nc_ hg BK659; have NB660_674 := nb_ hg BK660; have NB674_660 := nc_ hg BK660; have NB667_674 := nb_ hg BK667; have NB674_667 := nc_ hg BK667; replace HO664 := Aside0.mk (Kd.R_below (kr_ HO664.out) hb); replace HO671 := Aside0.mk (Kd.R_below (kr_ HO671.out) hb); replace BK658 := kq_ BK658 hb; replace BK659 := kq_ BK659 hb; replace BK660 := kq_ BK660 hb; replace BK667 := kq_ BK667 hb; replace HB := bq_ HB hb; clear hb hbox hg; have hnb24 := NB674_658.out; have hnc24 := NB658_674.out; have hnb25 := NB674_659.out; have hnc25 := NB659_674.out; have hnb26 := NB674_660.out; have hnc26 := NB660_674.out; have hnb27 := NB674_667.out; have hnc27 := NB667_674.out; obtain ⟨hcz28_0, hcz28_1, hcz28_2, hfz28_0, hfz28_1, hfz28_2⟩ := c3_ BK674; obtain ⟨Ao29, co29, eo29⟩ := Kd.R_slice HO671.out; subst eo29))
 (try simp only [Act.put, List.setIfInBounds_toArray, List.set_cons_zero, List.set_cons_succ])
 go_cut [38] (fun v38 wc => ∃ (kq : Nat) (x38_5 : Bool), v38 = .bool x38_5 ∧ Aside0 (peloruslaw06_holds.j0 kq x38_5 a0_0 l0_1 a0_2 a1_0 a1_1 a1_2 a1_3 a2_0 a2_1 a2_2 a2_3 t661 t662 t665 t668 t669 t672 = some r) ∧ Aside0 (kq ≤ k) ∧ Aside0 (Kd.R (Kd.int .u32) 44 wc w.heap.size (fun k_ => some k_ ≠ ((.slice Ao29 t669.length co29) : Value).ownBlock) (.slice Ao19 t662.length co19) t662) ∧ Aside0 (Kd.R (Kd.int .u32) 44 wc w.heap.size (fun k_ => some k_ ≠ ((.slice Ao19 t662.length co19) : Value).ownBlock) (.slice Ao29 t669.length co29) t669) ∧ Aside0 (wc.heap[gb658]? = some (.cells #[.bool a0_0, (.slice A0_1 l0_1.length c0_1), .int .i64 a0_2] 31 (0, 0))) ∧ Aside0 (wc.heap[gb659]? = some (.cells #[.int .i64 a1_0, .bool a1_1, .int .u64 a1_2, .int .i64 a1_3] 24 (0, 0))) ∧ Aside0 (wc.heap[gb660]? = some (.cells #[.int .i64 a2_0, .bool a2_1, .int .u64 a2_2, .int .i64 a2_3] 24 (0, 0))) ∧ Aside0 (wc.heap[gb667]? = some (.cells #[.bool t661, (.slice Ao19 t662.length co19), .int .i64 t665] 31 (0, 0))) ∧ Aside0 (wc.heap[gb674]? = some (.cells #[.bool t668, (.slice Ao29 t669.length co29), .int .i64 t672] 31 (0, 0))) ∧ Aside0 (Below w.heap.size w wc))
 case first =>
  have H := HC6.out
  clear HC6
  by_cases c30 : t666 = true
  ·subst c30
   have H1 : (if t673 = true then ((dy_Cmp.f k t661 t662 t665 a0_0 l0_1 a0_2).bind fun t675 => (if t675 > 0 then (peloruslaw06_holds.j0 k true a0_0 l0_1 a0_2 a1_0 a1_1 a1_2 a1_3 a2_0 a2_1 a2_2 a2_3 t661 t662 t665 t668 t669 t672) else ((dy_Cmp.f k t668 t669 t672 a0_0 l0_1 a0_2).bind fun t676 => (peloruslaw06_holds.j0 k (decide (t676 < 0)) a0_0 l0_1 a0_2 a1_0 a1_1 a1_2 a1_3 a2_0 a2_1 a2_2 a2_3 t661 t662 t665 t668 t669 t672)))) else (peloruslaw06_holds.j0 k true a0_0 l0_1 a0_2 a1_0 a1_1 a1_2 a1_3 a2_0 a2_1 a2_2 a2_3 t661 t662 t665 t668 t669 t672)) = some r := by rw [if_pos rfl] at H; exact H
   clear H
   have H := H1
   clear H1
   by_cases c31 : t673 = true
   ·subst c31
    have H1 : ((dy_Cmp.f k t661 t662 t665 a0_0 l0_1 a0_2).bind fun t675 => (if t675 > 0 then (peloruslaw06_holds.j0 k true a0_0 l0_1 a0_2 a1_0 a1_1 a1_2 a1_3 a2_0 a2_1 a2_2 a2_3 t661 t662 t665 t668 t669 t672) else ((dy_Cmp.f k t668 t669 t672 a0_0 l0_1 a0_2).bind fun t676 => (peloruslaw06_holds.j0 k (decide (t676 < 0)) a0_0 l0_1 a0_2 a1_0 a1_1 a1_2 a1_3 a2_0 a2_1 a2_2 a2_3 t661 t662 t665 t668 t669 t672)))) = some r := by rw [if_pos rfl] at H; exact H
    clear H
    have H := H1
    clear H1
    replace H := Option.bind_eq_some_iff.mp H
    obtain ⟨t675, A320, H⟩ := H
    (try dsimp only at H)
    have A32 := Aside0.mk A320
    clear A320
    by_cases c33 : t675 > 0
    ·rw [if_pos c33] at H
     have c33b0 : decide (0 < t675) = true := decide_eq_true c33
     clear c33
     (first | rw [c33b0] | (simp only [i64_w, i32_w]; rw [c33b0]) | skip)
     have H' := Aside0.mk H
     clear H
     have hnb34 := NB667_658.out
     have hnc34 := NB658_667.out
     have hnb35 := NB667_659.out
     have hnc35 := NB659_667.out
     have hnb36 := NB667_660.out
     have hnc36 := NB660_667.out
     have hnb37 := NB667_674.out
     have hnc37 := NB674_667.out
     obtain ⟨hcz38_0, hcz38_1, hcz38_2, hfz38_0, hfz38_1, hfz38_2⟩ := c3_ BK667
     have hnb39 := NB658_659.out
     have hnc39 := NB659_658.out
     have hnb40 := NB658_660.out
     have hnc40 := NB660_658.out
     have hnb41 := NB658_674.out
     have hnc41 := NB674_658.out
     obtain ⟨hcz42_0, hcz42_1, hcz42_2, hfz42_0, hfz42_1, hfz42_2⟩ := c3_ BK658
     go_wp2_with (first | (go_at_call 22; (with_reducible refine (dy_Cmp.calls k t661 _ _ t662 t665 a0_0 _ _ l0_1 a0_2 t675 _ ?side1 ?side2 ?side3 ?side4 A32.out ?sidet).mono ?_); (case sidet => exact Kd.C_below HTAB.out (bw_ HB.out)); (case side1 => refine (Kd.R_reads' (e := 44) (base := w.heap.size) (ok := fun k_ => (True ∧ some k_ ≠ (.slice Ao29 t669.length co29 : Value).ownBlock)) (n := t662.length) (c := co19) ?_).2.2; exact (kr_ ((Kd.R_mono (Kd.R_far (p := ⟨gb674, 2, none⟩) (Kd.R_far (p := ⟨gb674, 1, none⟩) (Kd.R_far (p := ⟨gb674, 0, none⟩) (Kd.R_types HO664.out BK674.out (by decide)) (fun _ hk => hk.2) (.bool t668)) (fun _ hk => hk.2) (.slice Ao29 t669.length co29)) (fun _ hk => hk.2) (.int .i64 t672)) (fun _ h_ => h_.1))))); (case side2 => exact (Kd.R_reads' HO664.out).2.1); (case side3 => exact Kd.C_below HR0_1.out (bw_ HB.out)); (case side4 => exact HC0_1.out); rintro e w43 ⟨rfl, hb⟩; have n0_ := Aside0.mk (Kd.R_below (kr_ ((Kd.R_mono (Kd.R_far (p := ⟨gb674, 2, none⟩) (Kd.R_far (p := ⟨gb674, 1, none⟩) (Kd.R_far (p := ⟨gb674, 0, none⟩) (Kd.R_types HO664.out BK674.out (by decide)) (fun _ hk => hk.2) (.bool t668)) (fun _ hk => hk.2) (.slice Ao29 t669.length co29)) (fun _ hk => hk.2) (.int .i64 t672)) (fun _ h_ => h_.1)))) hb); have n1_ := Aside0.mk (Kd.R_below (kr_ ((Kd.R_mono (Kd.R_far (p := ⟨gb674, 2, none⟩) (Kd.R_far (p := ⟨gb674, 1, none⟩) (Kd.R_far (p := ⟨gb674, 0, none⟩) (Kd.R_types HO671.out BK674.out (by decide)) (fun _ hk => hk.2) (.bool t668)) (fun _ hk => hk.2) (.slice Ao29 t669.length co29)) (fun _ hk => hk.2) (.int .i64 t672)) (fun _ h_ => h_.1)))) hb); have n2_ := Aside0.mk (blk_below (g := gb658) (o := .cells #[.bool a0_0, .slice A0_1 l0_1.length c0_1, .int .i64 a0_2] 31 (0, 0)) (by refine kb_ ?_; refine bf_ NB658_674 ?_; refine bf_ NB658_674 ?_; refine bf_ NB658_674 ?_; exact BK658.out) hb); have n3_ := Aside0.mk (blk_below (g := gb659) (o := .cells #[.int .i64 a1_0, .bool a1_1, .int .u64 a1_2, .int .i64 a1_3] 24 (0, 0)) (by refine kb_ ?_; refine bf_ NB659_674 ?_; refine bf_ NB659_674 ?_; refine bf_ NB659_674 ?_; exact BK659.out) hb); have n4_ := Aside0.mk (blk_below (g := gb660) (o := .cells #[.int .i64 a2_0, .bool a2_1, .int .u64 a2_2, .int .i64 a2_3] 24 (0, 0)) (by refine kb_ ?_; refine bf_ NB660_674 ?_; refine bf_ NB660_674 ?_; refine bf_ NB660_674 ?_; exact BK660.out) hb); have n5_ := Aside0.mk (blk_below (g := gb667) (o := .cells #[.bool t661, .slice Ao19 t662.length co19, .int .i64 t665] 31 (0, 0)) (by refine kb_ ?_; refine bf_ NB667_674 ?_; refine bf_ NB667_674 ?_; refine bf_ NB667_674 ?_; exact BK667.out) hb); have n6_ := Aside0.mk (blk_below (g := gb674) (o := .cells #[.bool t668, .slice Ao29 t669.length co29, .int .i64 t672] 31 (0, 0)) (by refine kb_ ?_; refine bp_ #[.bool t668, .slice Ao29 t669.length co29, .int .i64 0] 2 ?_; refine bp_ #[.bool t668, .slice none 0 0, .int .i64 0] 1 ?_; refine bp_ #[.bool false, .slice none 0 0, .int .i64 0] 0 ?_; exact BK674.out) hb); have n7_ := bq_ HB hb; clear HO664; clear HO671; clear BK658; clear BK659; clear BK660; clear BK667; clear BK674; clear HB; have HO664 := n0_; have HO671 := n1_; have BK658 := n2_; have BK659 := n3_; have BK660 := n4_; have BK667 := n5_; have BK674 := n6_; have HB := n7_; clear n0_ n1_ n2_ n3_ n4_ n5_ n6_ n7_; (try clear hb); (try clear hb2); (try clear hk); (try clear hi)))
     go_meet
     case rel => exact ⟨_, (true), (by first | rfl | (simp; done) | (simp [*]; done)), H', ⟨by first | omega | exact Nat.le_refl _⟩, ⟨by (with_reducible repeat (first | apply Kd.R_alloc | apply Kd.R_drewN | apply Kd.R_drew)); exact Kd.R_mono HO664.out (fun _ hk => hk.2)⟩, ⟨by (with_reducible repeat (first | apply Kd.R_alloc | apply Kd.R_drewN | apply Kd.R_drew)); exact Kd.R_mono HO671.out (fun _ hk => hk.2)⟩, ⟨kb_ BK658.out⟩, ⟨kb_ BK659.out⟩, ⟨kb_ BK660.out⟩, ⟨kb_ BK667.out⟩, ⟨kb_ BK674.out⟩, ⟨bw_ HB.out⟩⟩
    ·rw [if_neg c33] at H
     have c33b0 : decide (0 < t675) = false := decide_eq_false c33
     clear c33
     (first | rw [c33b0] | (simp only [i64_w, i32_w]; rw [c33b0]) | skip)
     replace H := Option.bind_eq_some_iff.mp H
     obtain ⟨t676, A440, H⟩ := H
     (try dsimp only at H)
     have A44 := Aside0.mk A440
     clear A440
     have H' := Aside0.mk H
     clear H
     have hnb45 := NB667_658.out
     have hnc45 := NB658_667.out
     have hnb46 := NB667_659.out
     have hnc46 := NB659_667.out
     have hnb47 := NB667_660.out
     have hnc47 := NB660_667.out
     have hnb48 := NB667_674.out
     have hnc48 := NB674_667.out
     obtain ⟨hcz49_0, hcz49_1, hcz49_2, hfz49_0, hfz49_1, hfz49_2⟩ := c3_ BK667
     have hnb50 := NB658_659.out
     have hnc50 := NB659_658.out
     have hnb51 := NB658_660.out
     have hnc51 := NB660_658.out
     have hnb52 := NB658_674.out
     have hnc52 := NB674_658.out
     obtain ⟨hcz53_0, hcz53_1, hcz53_2, hfz53_0, hfz53_1, hfz53_2⟩ := c3_ BK658
     go_wp2_with (first | (go_at_call 22; (with_reducible refine (dy_Cmp.calls k t661 _ _ t662 t665 a0_0 _ _ l0_1 a0_2 t675 _ ?side1 ?side2 ?side3 ?side4 A32.out ?sidet).mono ?_); (case sidet => exact Kd.C_below HTAB.out (bw_ HB.out)); (case side1 => refine (Kd.R_reads' (e := 44) (base := w.heap.size) (ok := fun k_ => (True ∧ some k_ ≠ (.slice Ao29 t669.length co29 : Value).ownBlock)) (n := t662.length) (c := co19) ?_).2.2; exact (kr_ ((Kd.R_mono (Kd.R_far (p := ⟨gb674, 2, none⟩) (Kd.R_far (p := ⟨gb674, 1, none⟩) (Kd.R_far (p := ⟨gb674, 0, none⟩) (Kd.R_types HO664.out BK674.out (by decide)) (fun _ hk => hk.2) (.bool t668)) (fun _ hk => hk.2) (.slice Ao29 t669.length co29)) (fun _ hk => hk.2) (.int .i64 t672)) (fun _ h_ => h_.1))))); (case side2 => exact (Kd.R_reads' HO664.out).2.1); (case side3 => exact Kd.C_below HR0_1.out (bw_ HB.out)); (case side4 => exact HC0_1.out); rintro e w54 ⟨rfl, hb⟩; have n0_ := Aside0.mk (Kd.R_below (kr_ ((Kd.R_mono (Kd.R_far (p := ⟨gb674, 2, none⟩) (Kd.R_far (p := ⟨gb674, 1, none⟩) (Kd.R_far (p := ⟨gb674, 0, none⟩) (Kd.R_types HO664.out BK674.out (by decide)) (fun _ hk => hk.2) (.bool t668)) (fun _ hk => hk.2) (.slice Ao29 t669.length co29)) (fun _ hk => hk.2) (.int .i64 t672)) (fun _ h_ => h_.1)))) hb); have n1_ := Aside0.mk (Kd.R_below (kr_ ((Kd.R_mono (Kd.R_far (p := ⟨gb674, 2, none⟩) (Kd.R_far (p := ⟨gb674, 1, none⟩) (Kd.R_far (p := ⟨gb674, 0, none⟩) (Kd.R_types HO671.out BK674.out (by decide)) (fun _ hk => hk.2) (.bool t668)) (fun _ hk => hk.2) (.slice Ao29 t669.length co29)) (fun _ hk => hk.2) (.int .i64 t672)) (fun _ h_ => h_.1)))) hb); have n2_ := Aside0.mk (blk_below (g := gb658) (o := .cells #[.bool a0_0, .slice A0_1 l0_1.length c0_1, .int .i64 a0_2] 31 (0, 0)) (by refine kb_ ?_; refine bf_ NB658_674 ?_; refine bf_ NB658_674 ?_; refine bf_ NB658_674 ?_; exact BK658.out) hb); have n3_ := Aside0.mk (blk_below (g := gb659) (o := .cells #[.int .i64 a1_0, .bool a1_1, .int .u64 a1_2, .int .i64 a1_3] 24 (0, 0)) (by refine kb_ ?_; refine bf_ NB659_674 ?_; refine bf_ NB659_674 ?_; refine bf_ NB659_674 ?_; exact BK659.out) hb); have n4_ := Aside0.mk (blk_below (g := gb660) (o := .cells #[.int .i64 a2_0, .bool a2_1, .int .u64 a2_2, .int .i64 a2_3] 24 (0, 0)) (by refine kb_ ?_; refine bf_ NB660_674 ?_; refine bf_ NB660_674 ?_; refine bf_ NB660_674 ?_; exact BK660.out) hb); have n5_ := Aside0.mk (blk_below (g := gb667) (o := .cells #[.bool t661, .slice Ao19 t662.length co19, .int .i64 t665] 31 (0, 0)) (by refine kb_ ?_; refine bf_ NB667_674 ?_; refine bf_ NB667_674 ?_; refine bf_ NB667_674 ?_; exact BK667.out) hb); have n6_ := Aside0.mk (blk_below (g := gb674) (o := .cells #[.bool t668, .slice Ao29 t669.length co29, .int .i64 t672] 31 (0, 0)) (by refine kb_ ?_; refine bp_ #[.bool t668, .slice Ao29 t669.length co29, .int .i64 0] 2 ?_; refine bp_ #[.bool t668, .slice none 0 0, .int .i64 0] 1 ?_; refine bp_ #[.bool false, .slice none 0 0, .int .i64 0] 0 ?_; exact BK674.out) hb); have n7_ := bq_ HB hb; clear HO664; clear HO671; clear BK658; clear BK659; clear BK660; clear BK667; clear BK674; clear HB; have HO664 := n0_; have HO671 := n1_; have BK658 := n2_; have BK659 := n3_; have BK660 := n4_; have BK667 := n5_; have BK674 := n6_; have HB := n7_; clear n0_ n1_ n2_ n3_ n4_ n5_ n6_ n7_; (try clear hb); (try clear hb2); (try clear hk); (try clear hi); have hnb55 := NB674_659.out; have hnc55 := NB659_674.out; have hnb56 := NB674_660.out; have hnc56 := NB660_674.out; obtain ⟨hcz57_0, hcz57_1, hcz57_2, hfz57_0, hfz57_1, hfz57_2⟩ := c3_ BK674; obtain ⟨hcz58_0, hcz58_1, hcz58_2, hfz58_0, hfz58_1, hfz58_2⟩ := c3_ BK658) | (go_at_call 22; (with_reducible refine (dy_Cmp.calls k t668 _ _ t669 t672 a0_0 _ _ l0_1 a0_2 t676 _ ?side1 ?side2 ?side3 ?side4 A44.out ?sidet).mono ?_); (case sidet => exact Kd.C_below HTAB.out (bw_ HB.out)); (case side1 => exact kc_ (Kd.R_reads' HO671.out).2.2); (case side2 => exact (Kd.R_reads' HO671.out).2.1); (case side3 => exact kc_ (Kd.C_below HR0_1.out HB.out)); (case side4 => exact HC0_1.out); rintro e w59 ⟨rfl, hb⟩; replace HO664 := Aside0.mk (Kd.R_below (kr_ HO664.out) hb); replace HO671 := Aside0.mk (Kd.R_below (kr_ HO671.out) hb); replace BK658 := kq_ BK658 hb; replace BK659 := kq_ BK659 hb; replace BK660 := kq_ BK660 hb; replace BK667 := kq_ BK667 hb; replace BK674 := kq_ BK674 hb; replace HB := bq_ HB hb; (try clear hb); (try clear hb2); (try clear hk); (try clear hi)))
     go_meet
     case rel => exact ⟨_, (decide (t676 < 0)), (by first | rfl | (simp; done) | (simp [*]; done)), H', ⟨by first | omega | exact Nat.le_refl _⟩, ⟨by (with_reducible repeat (first | apply Kd.R_alloc | apply Kd.R_drewN | apply Kd.R_drew)); exact Kd.R_mono HO664.out (fun _ hk => hk.2)⟩, ⟨by (with_reducible repeat (first | apply Kd.R_alloc | apply Kd.R_drewN | apply Kd.R_drew)); exact Kd.R_mono HO671.out (fun _ hk => hk.2)⟩, ⟨kb_ BK658.out⟩, ⟨kb_ BK659.out⟩, ⟨kb_ BK660.out⟩, ⟨kb_ BK667.out⟩, ⟨kb_ BK674.out⟩, ⟨bw_ HB.out⟩⟩
   ·replace c31 := Bool.eq_false_iff.mpr c31
    subst c31
    have H1 : (peloruslaw06_holds.j0 k true a0_0 l0_1 a0_2 a1_0 a1_1 a1_2 a1_3 a2_0 a2_1 a2_2 a2_3 t661 t662 t665 t668 t669 t672) = some r := by rw [if_neg (show ¬ (false = true) by decide)] at H; exact H
    clear H
    have H := H1
    clear H1
    have H' := Aside0.mk H
    clear H
    go_wp2
    go_meet
    case rel => exact ⟨_, (true), (by first | rfl | (simp; done) | (simp [*]; done)), H', ⟨by first | omega | exact Nat.le_refl _⟩, ⟨by (with_reducible repeat (first | apply Kd.R_alloc | apply Kd.R_drewN | apply Kd.R_drew)); exact Kd.R_mono (Kd.R_far (p := ⟨gb674, 2, none⟩) (Kd.R_far (p := ⟨gb674, 1, none⟩) (Kd.R_far (p := ⟨gb674, 0, none⟩) (Kd.R_types HO664.out BK674.out (by decide)) (fun _ hk => hk.2) (.bool t668)) (fun _ hk => hk.2) (.slice Ao29 t669.length co29)) (fun _ hk => hk.2) (.int .i64 t672)) (fun _ hk => hk.1.2)⟩, ⟨by (with_reducible repeat (first | apply Kd.R_alloc | apply Kd.R_drewN | apply Kd.R_drew)); exact Kd.R_mono (Kd.R_far (p := ⟨gb674, 2, none⟩) (Kd.R_far (p := ⟨gb674, 1, none⟩) (Kd.R_far (p := ⟨gb674, 0, none⟩) (Kd.R_types HO671.out BK674.out (by decide)) (fun _ hk => hk.2) (.bool t668)) (fun _ hk => hk.2) (.slice Ao29 t669.length co29)) (fun _ hk => hk.2) (.int .i64 t672)) (fun _ hk => hk.1.2)⟩, ⟨by refine kb_ ?_; refine bf_ NB658_674 ?_; refine bf_ NB658_674 ?_; refine bf_ NB658_674 ?_; exact BK658.out⟩, ⟨by refine kb_ ?_; refine bf_ NB659_674 ?_; refine bf_ NB659_674 ?_; refine bf_ NB659_674 ?_; exact BK659.out⟩, ⟨by refine kb_ ?_; refine bf_ NB660_674 ?_; refine bf_ NB660_674 ?_; refine bf_ NB660_674 ?_; exact BK660.out⟩, ⟨by refine kb_ ?_; refine bf_ NB667_674 ?_; refine bf_ NB667_674 ?_; refine bf_ NB667_674 ?_; exact BK667.out⟩, ⟨by refine kb_ ?_; refine bp_ #[.bool t668, .slice Ao29 t669.length co29, .int .i64 0] 2 ?_; refine bp_ #[.bool t668, .slice none 0 0, .int .i64 0] 1 ?_; refine bp_ #[.bool false, .slice none 0 0, .int .i64 0] 0 ?_; exact BK674.out⟩, ⟨bw_ HB.out⟩⟩
  ·replace c30 := Bool.eq_false_iff.mpr c30
   subst c30
   have H1 : (peloruslaw06_holds.j0 k true a0_0 l0_1 a0_2 a1_0 a1_1 a1_2 a1_3 a2_0 a2_1 a2_2 a2_3 t661 t662 t665 t668 t669 t672) = some r := by rw [if_neg (show ¬ (false = true) by decide)] at H; exact H
   clear H
   have H := H1
   clear H1
   have H' := Aside0.mk H
   clear H
   go_wp2
   go_meet
   case rel => exact ⟨_, (true), (by first | rfl | (simp; done) | (simp [*]; done)), H', ⟨by first | omega | exact Nat.le_refl _⟩, ⟨by (with_reducible repeat (first | apply Kd.R_alloc | apply Kd.R_drewN | apply Kd.R_drew)); exact Kd.R_mono (Kd.R_far (p := ⟨gb674, 2, none⟩) (Kd.R_far (p := ⟨gb674, 1, none⟩) (Kd.R_far (p := ⟨gb674, 0, none⟩) (Kd.R_types HO664.out BK674.out (by decide)) (fun _ hk => hk.2) (.bool t668)) (fun _ hk => hk.2) (.slice Ao29 t669.length co29)) (fun _ hk => hk.2) (.int .i64 t672)) (fun _ hk => hk.1.2)⟩, ⟨by (with_reducible repeat (first | apply Kd.R_alloc | apply Kd.R_drewN | apply Kd.R_drew)); exact Kd.R_mono (Kd.R_far (p := ⟨gb674, 2, none⟩) (Kd.R_far (p := ⟨gb674, 1, none⟩) (Kd.R_far (p := ⟨gb674, 0, none⟩) (Kd.R_types HO671.out BK674.out (by decide)) (fun _ hk => hk.2) (.bool t668)) (fun _ hk => hk.2) (.slice Ao29 t669.length co29)) (fun _ hk => hk.2) (.int .i64 t672)) (fun _ hk => hk.1.2)⟩, ⟨by refine kb_ ?_; refine bf_ NB658_674 ?_; refine bf_ NB658_674 ?_; refine bf_ NB658_674 ?_; exact BK658.out⟩, ⟨by refine kb_ ?_; refine bf_ NB659_674 ?_; refine bf_ NB659_674 ?_; refine bf_ NB659_674 ?_; exact BK659.out⟩, ⟨by refine kb_ ?_; refine bf_ NB660_674 ?_; refine bf_ NB660_674 ?_; refine bf_ NB660_674 ?_; exact BK660.out⟩, ⟨by refine kb_ ?_; refine bf_ NB667_674 ?_; refine bf_ NB667_674 ?_; refine bf_ NB667_674 ?_; exact BK667.out⟩, ⟨by refine kb_ ?_; refine bp_ #[.bool t668, .slice Ao29 t669.length co29, .int .i64 0] 2 ?_; refine bp_ #[.bool t668, .slice none 0 0, .int .i64 0] 1 ?_; refine bp_ #[.bool false, .slice none 0 0, .int .i64 0] 0 ?_; exact BK674.out⟩, ⟨bw_ HB.out⟩⟩
 case rest =>
  clear HC6
  try clear c1
  try clear c2
  try clear p2
  try clear c3
  try clear c4
  try clear c5
  try clear c6
  try clear c9
  try clear c10
  try clear c11
  try clear c15
  try clear c16
  try clear c17
  try clear c20
  try clear c24
  try clear c25
  try clear c26
  try clear c27
  try clear c30
  try clear c31
  try clear c33
  try clear c33b0
  try clear c34
  try clear c35
  try clear c36
  try clear c37
  try clear c39
  try clear c40
  try clear c41
  try clear c45
  try clear c46
  try clear c47
  try clear c48
  try clear c50
  try clear c51
  try clear c52
  try clear c55
  try clear c56
  try clear hcz12_0 hcz12_1 hcz12_2 hcz12_3
  try clear hcz18_0 hcz18_1 hcz18_2
  try clear hcz21_0 hcz21_1 hcz21_2 hcz21_3
  try clear hcz28_0 hcz28_1 hcz28_2
  try clear hcz38_0 hcz38_1 hcz38_2
  try clear hcz42_0 hcz42_1 hcz42_2
  try clear hcz49_0 hcz49_1 hcz49_2
  try clear hcz53_0 hcz53_1 hcz53_2
  try clear hcz57_0 hcz57_1 hcz57_2
  try clear hcz58_0 hcz58_1 hcz58_2
  try clear hfz12_0 hfz12_1 hfz12_2 hfz12_3
  try clear hfz18_0 hfz18_1 hfz18_2
  try clear hfz21_0 hfz21_1 hfz21_2 hfz21_3
  try clear hfz28_0 hfz28_1 hfz28_2
  try clear hfz38_0 hfz38_1 hfz38_2
  try clear hfz42_0 hfz42_1 hfz42_2
  try clear hfz49_0 hfz49_1 hfz49_2
  try clear hfz53_0 hfz53_1 hfz53_2
  try clear hfz57_0 hfz57_1 hfz57_2
  try clear hfz58_0 hfz58_1 hfz58_2
  obtain ⟨kq, x38_5, rfl, HA, HJ5, HO_668001, HO_675001, BK658, BK659, BK660, BK667, BK674, HB⟩ := hcut
  cases kq with
  | zero => exact absurd HA.out (by simp [peloruslaw06_holds.j0])
  | succ kj5 =>
   have H := HA.out
   clear HA
   simp only [peloruslaw06_holds.j0] at H
   by_cases c60 : x38_5 = true
   ·subst c60
    have H1 : (some false) = some r := by rw [if_pos rfl] at H; exact H
    clear H
    have H := H1
    clear H1
    obtain rfl := Option.some.inj H
    go_wp2
    go_ret
    exact ⟨rf_, bw_ HB.out⟩
   ·replace c60 := Bool.eq_false_iff.mpr c60
    subst c60
    have H1 : (if (a1_0 == a2_0 && (a1_1 == a2_1 && (a1_2 == a2_2 && (a1_3 == a2_3)))) = true then (some true) else ((num_Next.f kj5 a1_0 a1_1 a1_2 a1_3 true).bind fun bt677 => (if (bt677.1 == a2_0 && (bt677.2.1 == a2_1 && (bt677.2.2.1 == a2_2 && (bt677.2.2.2 == a2_3)))) = true then ((dy_Cmp.f kj5 t661 t662 t665 a0_0 l0_1 a0_2).bind fun t681 => (if t681 < 0 then ((dy_Cmp.f kj5 a0_0 l0_1 a0_2 t668 t669 t672).bind fun t682 => (some (decide (t682 < 0)))) else (some false))) else (some false)))) = some r := by rw [if_neg (show ¬ (false = true) by decide)] at H; exact H
    clear H
    have H := H1
    clear H1
    by_cases c61 : (a1_0 == a2_0 && (a1_1 == a2_1 && (a1_2 == a2_2 && (a1_3 == a2_3)))) = true
    ·rw [if_pos c61] at H
     have c61b0 : (a1_0 == a2_0 && (a1_1 == a2_1 && (a1_2 == a2_2 && (a1_3 == a2_3)))) = true := c61
     (try (have c61b1 : decide (a1_0 = a2_0 && (a1_1 == a2_1 && (a1_2 == a2_2 && (a1_3 == a2_3)))) = true := by simpa using c61))
     (try (have c61b2 : (a1_0 == a2_0 && (a1_1 == a2_1 && (a1_2 == a2_2 && (a1_3 == a2_3)))) = true := by simpa using c61))
     clear c61
     obtain rfl := Option.some.inj H
     try go_wp2
     replace HO_668001 := Aside0.mk (Kd.R_drew HO_668001.out)
     replace HO_675001 := Aside0.mk (Kd.R_drew HO_675001.out)
     replace BK658 := Aside0.mk (blk_drew BK658.out)
     replace BK659 := Aside0.mk (blk_drew BK659.out)
     replace BK660 := Aside0.mk (blk_drew BK660.out)
     replace BK667 := Aside0.mk (blk_drew BK667.out)
     replace BK674 := Aside0.mk (blk_drew BK674.out)
     replace HB := Aside0.mk (below_drew1 HB.out)
     refine start_ (n := 22) (S := fun w' => w'.cell? ⟨gb659, 0, none⟩ = some (.int .i64 a1_0) ∧ w'.cell? ⟨gb659, 1, none⟩ = some (.bool a1_1) ∧ w'.cell? ⟨gb659, 2, none⟩ = some (.int .u64 a1_2) ∧ w'.cell? ⟨gb659, 3, none⟩ = some (.int .i64 a1_3) ∧ w'.cell? ⟨gb660, 0, none⟩ = some (.int .i64 a2_0) ∧ w'.cell? ⟨gb660, 1, none⟩ = some (.bool a2_1) ∧ w'.cell? ⟨gb660, 2, none⟩ = some (.int .u64 a2_2) ∧ w'.cell? ⟨gb660, 3, none⟩ = some (.int .i64 a2_3)) (ds := []) #[false, false, false, false, false, false, false, false, false, false, false, false, false, false, false, false, false, false, false, false, false, false] (by kernel_rfl) rfl rfl ⟨(blk_cell BK659.out 0).trans rfl, (blk_cell BK659.out 1).trans rfl, (blk_cell BK659.out 2).trans rfl, (blk_cell BK659.out 3).trans rfl, (blk_cell BK660.out 0).trans rfl, (blk_cell BK660.out 1).trans rfl, (blk_cell BK660.out 2).trans rfl, (blk_cell BK660.out 3).trans rfl⟩ (fun hHeld => ?_); refine with_tabW peloruslaw06_holds.tab5 peloruslaw06_holds.bits5 (fun HT_ HW_ => ?_)
     generalize wc.drew = w62 at HO_668001 HO_675001 BK658 BK659 BK660 BK667 BK674 HB hHeld ⊢
     refine take_ (i := 0) (N := some 39) (v := ?_) (a' := ?_) #[true, false, false, false, false, false, false, false, false, false, false, false, false, false, false, false, false, false, false, false, false, false] rfl rfl (take_ofW HT_.out HW_.out (by kernel_rfl)) (fun _ _ _ h => h) (Or.inl ⟨by rfl, ?_⟩) hHeld ?_ ?_
     rotate_left
     ·rintro w' ⟨s0, s1, s2, s3, s4, s5, s6, s7⟩
      go_simp
      with_reducible rfl
     rotate_left
     ·exact pt_
     refine take_ (i := 1) (N := some 40) (v := ?_) (a' := ?_) #[true, true, false, false, false, false, false, false, false, false, false, false, false, false, false, false, false, false, false, false, false, false] rfl rfl (take_ofW HT_.out HW_.out (by kernel_rfl)) (fun _ _ _ h => h) (Or.inl ⟨by rfl, ?_⟩) hHeld ?_ ?_
     rotate_left
     ·rintro w' ⟨s0, s1, s2, s3, s4, s5, s6, s7⟩
      go_simp
      with_reducible rfl
     rotate_left
     ·exact pt_
     refine pure_ (i := 2) (N := some 41) (v := ?_) (a' := ?_) #[true, true, true, false, false, false, false, false, false, false, false, false, false, false, false, false, false, false, false, false, false, false] rfl rfl (any_of HT_.out (by kernel_rfl)) (fun _ _ _ h => h) (Or.inl ⟨by rfl, ?_⟩) ?_ ?_
     rotate_left
     ·intro w'
      go_simp
      with_reducible rfl
     rotate_left
     ·exact pt_
     refine pure_ (i := 3) (N := some 42) (v := ?_) (a' := ?_) #[true, true, true, true, false, false, false, false, false, false, false, false, false, false, false, false, false, false, false, false, false, false] rfl rfl (any_of HT_.out (by kernel_rfl)) (fun _ _ _ h => h) (Or.inl ⟨by rfl, ?_⟩) ?_ ?_
     rotate_left
     ·intro w'
      go_simp
      with_reducible rfl
     rotate_left
     ·exact pt_
     refine pure_ (i := 4) (N := some 43) (v := undef) (a' := ?_) #[true, true, true, true, true, false, false, false, false, false, false, false, false, false, false, false, false, false, false, false, false, false] rfl rfl (any_of HT_.out (by kernel_rfl)) (fun _ _ _ h => h) (Or.inr ⟨by rfl, rfl⟩) ?_ ?_
     rotate_left
     ·exact pt_
     refine pure_ (i := 5) (N := some 44) (v := undef) (a' := ?_) #[true, true, true, true, true, true, false, false, false, false, false, false, false, false, false, false, false, false, false, false, false, false] rfl rfl (any_of HT_.out (by kernel_rfl)) (fun _ _ _ h => h) (Or.inr ⟨by rfl, rfl⟩) ?_ ?_
     rotate_left
     ·exact pt_
     refine pure_ (i := 6) (N := some 45) (v := undef) (a' := ?_) #[true, true, true, true, true, true, true, false, false, false, false, false, false, false, false, false, false, false, false, false, false, false] rfl rfl (any_of HT_.out (by kernel_rfl)) (fun _ _ _ h => h) (Or.inr ⟨by rfl, rfl⟩) ?_ ?_
     rotate_left
     ·exact pt_
     refine pure_ (i := 7) (N := some 46) (v := undef) (a' := ?_) #[true, true, true, true, true, true, true, true, false, false, false, false, false, false, false, false, false, false, false, false, false, false] rfl rfl (any_of HT_.out (by kernel_rfl)) (fun _ _ _ h => h) (Or.inr ⟨by rfl, rfl⟩) ?_ ?_
     rotate_left
     ·exact pt_
     refine pure_ (i := 8) (N := some 47) (v := undef) (a' := ?_) #[true, true, true, true, true, true, true, true, true, false, false, false, false, false, false, false, false, false, false, false, false, false] rfl rfl (any_of HT_.out (by kernel_rfl)) (fun _ _ _ h => h) (Or.inr ⟨by rfl, rfl⟩) ?_ ?_
     rotate_left
     ·exact pt_
     refine pure_ (i := 9) (N := some 48) (v := undef) (a' := ?_) #[true, true, true, true, true, true, true, true, true, true, false, false, false, false, false, false, false, false, false, false, false, false] rfl rfl (any_of HT_.out (by kernel_rfl)) (fun _ _ _ h => h) (Or.inr ⟨by rfl, rfl⟩) ?_ ?_
     rotate_left
     ·exact pt_
     refine pure_ (i := 10) (N := some 49) (v := undef) (a' := ?_) #[true, true, true, true, true, true, true, true, true, true, true, false, false, false, false, false, false, false, false, false, false, false] rfl rfl (any_of HT_.out (by kernel_rfl)) (fun _ _ _ h => h) (Or.inr ⟨by rfl, rfl⟩) ?_ ?_
     rotate_left
     ·exact pt_
     refine pure_ (i := 11) (N := some 50) (v := undef) (a' := ?_) #[true, true, true, true, true, true, true, true, true, true, true, true, false, false, false, false, false, false, false, false, false, false] rfl rfl (any_of HT_.out (by kernel_rfl)) (fun _ _ _ h => h) (Or.inr ⟨by rfl, rfl⟩) ?_ ?_
     rotate_left
     ·exact pt_
     refine pure_ (i := 12) (N := some 51) (v := undef) (a' := ?_) #[true, true, true, true, true, true, true, true, true, true, true, true, true, false, false, false, false, false, false, false, false, false] rfl rfl (any_of HT_.out (by kernel_rfl)) (fun _ _ _ h => h) (Or.inr ⟨by rfl, rfl⟩) ?_ ?_
     rotate_left
     ·exact pt_
     refine pure_ (i := 13) (N := some 52) (v := undef) (a' := ?_) #[true, true, true, true, true, true, true, true, true, true, true, true, true, true, false, false, false, false, false, false, false, false] rfl rfl (any_of HT_.out (by kernel_rfl)) (fun _ _ _ h => h) (Or.inr ⟨by rfl, rfl⟩) ?_ ?_
     rotate_left
     ·exact pt_
     refine pure_ (i := 14) (N := some 53) (v := undef) (a' := ?_) #[true, true, true, true, true, true, true, true, true, true, true, true, true, true, true, false, false, false, false, false, false, false] rfl rfl (any_of HT_.out (by kernel_rfl)) (fun _ _ _ h => h) (Or.inr ⟨by rfl, rfl⟩) ?_ ?_
     rotate_left
     ·exact pt_
     refine pure_ (i := 15) (N := some 54) (v := undef) (a' := ?_) #[true, true, true, true, true, true, true, true, true, true, true, true, true, true, true, true, false, false, false, false, false, false] rfl rfl (any_of HT_.out (by kernel_rfl)) (fun _ _ _ h => h) (Or.inr ⟨by rfl, rfl⟩) ?_ ?_
     rotate_left
     ·exact pt_
     refine pure_ (i := 16) (N := some 55) (v := undef) (a' := ?_) #[true, true, true, true, true, true, true, true, true, true, true, true, true, true, true, true, true, false, false, false, false, false] rfl rfl (any_of HT_.out (by kernel_rfl)) (fun _ _ _ h => h) (Or.inr ⟨by rfl, rfl⟩) ?_ ?_
     rotate_left
     ·exact pt_
     refine pure_ (i := 17) (N := some 56) (v := undef) (a' := ?_) #[true, true, true, true, true, true, true, true, true, true, true, true, true, true, true, true, true, true, false, false, false, false] rfl rfl (any_of HT_.out (by kernel_rfl)) (fun _ _ _ h => h) (Or.inr ⟨by rfl, rfl⟩) ?_ ?_
     rotate_left
     ·exact pt_
     refine pure_ (i := 18) (N := some 57) (v := undef) (a' := ?_) #[true, true, true, true, true, true, true, true, true, true, true, true, true, true, true, true, true, true, true, false, false, false] rfl rfl (any_of HT_.out (by kernel_rfl)) (fun _ _ _ h => h) (Or.inr ⟨by rfl, rfl⟩) ?_ ?_
     rotate_left
     ·exact pt_
     refine pure_ (i := 19) (N := some 58) (v := undef) (a' := ?_) #[true, true, true, true, true, true, true, true, true, true, true, true, true, true, true, true, true, true, true, true, false, false] rfl rfl (any_of HT_.out (by kernel_rfl)) (fun _ _ _ h => h) (Or.inr ⟨by rfl, rfl⟩) ?_ ?_
     rotate_left
     ·exact pt_
     refine pure_ (i := 20) (N := some 59) (v := ?_) (a' := ?_) #[true, true, true, true, true, true, true, true, true, true, true, true, true, true, true, true, true, true, true, true, true, false] rfl rfl (any_of HT_.out (by kernel_rfl)) (fun _ _ _ h => h) (Or.inl ⟨by rfl, ?_⟩) ?_ ?_
     rotate_left
     ·intro w'
      go_simp
      with_reducible rfl
     rotate_left
     ·exact pt_
     refine pure_ (i := 21) (N := some 6) (v := ?_) (a' := ?_) #[true, true, true, true, true, true, true, true, true, true, true, true, true, true, true, true, true, true, true, true, true, true] rfl rfl (any_of HT_.out (by kernel_rfl)) (fun _ _ _ h => h) (Or.inl ⟨by rfl, ?_⟩) ?_ ?_
     rotate_left
     ·intro w'
      go_simp
      with_reducible rfl
     rotate_left
     ·exact pt_
     refine done_ (done_of HT_.out (by kernel_rfl)) ?_
     try go_wp2
     go_ret
     exact ⟨rf_, bw_ HB.out⟩
    ·rw [if_neg c61] at H
     have c61b0 : (a1_0 == a2_0 && (a1_1 == a2_1 && (a1_2 == a2_2 && (a1_3 == a2_3)))) = false := by simpa using c61
     (try (have c61b1 : decide (a1_0 = a2_0 && (a1_1 == a2_1 && (a1_2 == a2_2 && (a1_3 == a2_3)))) = false := by simpa using c61))
     (try (have c61b2 : (a1_0 == a2_0 && (a1_1 == a2_1 && (a1_2 == a2_2 && (a1_3 == a2_3)))) = false := by simpa using c61))
     (try (have c61b3 : ¬ (a1_0 = a2_0 && (a1_1 == a2_1 && (a1_2 == a2_2 && (a1_3 == a2_3)))) := by simpa using c61))
     clear c61
     replace H := Option.bind_eq_some_iff.mp H
     obtain ⟨⟨t677, t678, t679, t680⟩, A630, H⟩ := H
     (try dsimp only at H)
     have A63 := Aside0.mk A630
     clear A630
     by_cases c64 : (t677 == a2_0 && (t678 == a2_1 && (t679 == a2_2 && (t680 == a2_3)))) = true
     ·rw [if_pos c64] at H
      have c64b0 : (t677 == a2_0 && (t678 == a2_1 && (t679 == a2_2 && (t680 == a2_3)))) = true := c64
      (try (have c64b1 : decide (t677 = a2_0 && (t678 == a2_1 && (t679 == a2_2 && (t680 == a2_3)))) = true := by simpa using c64))
      (try (have c64b2 : (t677 == a2_0 && (t678 == a2_1 && (t679 == a2_2 && (t680 == a2_3)))) = true := by simpa using c64))
      clear c64
      replace H := Option.bind_eq_some_iff.mp H
      obtain ⟨t681, A650, H⟩ := H
      (try dsimp only at H)
      have A65 := Aside0.mk A650
      clear A650
      by_cases c66 : t681 < 0
      ·rw [if_pos c66] at H
       have c66b0 : decide (t681 < 0) = true := decide_eq_true c66
       clear c66
       replace H := Option.bind_eq_some_iff.mp H
       obtain ⟨t682, A670, H⟩ := H
       (try dsimp only at H)
       have A67 := Aside0.mk A670
       clear A670
       obtain rfl := Option.some.inj H
       try go_wp2
       replace HO_668001 := Aside0.mk (Kd.R_drew HO_668001.out)
       replace HO_675001 := Aside0.mk (Kd.R_drew HO_675001.out)
       replace BK658 := Aside0.mk (blk_drew BK658.out)
       replace BK659 := Aside0.mk (blk_drew BK659.out)
       replace BK660 := Aside0.mk (blk_drew BK660.out)
       replace BK667 := Aside0.mk (blk_drew BK667.out)
       replace BK674 := Aside0.mk (blk_drew BK674.out)
       replace HB := Aside0.mk (below_drew1 HB.out)
       refine start_ (n := 22) (S := fun w' => w'.cell? ⟨gb659, 0, none⟩ = some (.int .i64 a1_0) ∧ w'.cell? ⟨gb659, 1, none⟩ = some (.bool a1_1) ∧ w'.cell? ⟨gb659, 2, none⟩ = some (.int .u64 a1_2) ∧ w'.cell? ⟨gb659, 3, none⟩ = some (.int .i64 a1_3) ∧ w'.cell? ⟨gb660, 0, none⟩ = some (.int .i64 a2_0) ∧ w'.cell? ⟨gb660, 1, none⟩ = some (.bool a2_1) ∧ w'.cell? ⟨gb660, 2, none⟩ = some (.int .u64 a2_2) ∧ w'.cell? ⟨gb660, 3, none⟩ = some (.int .i64 a2_3) ∧ w'.cell? ⟨gb667, 0, none⟩ = some (.bool t661) ∧ w'.cell? ⟨gb667, 1, none⟩ = some (.slice Ao19 t662.length co19) ∧ w'.cell? ⟨gb667, 2, none⟩ = some (.int .i64 t665) ∧ w'.cell? ⟨gb658, 0, none⟩ = some (.bool a0_0) ∧ w'.cell? ⟨gb658, 1, none⟩ = some (.slice A0_1 l0_1.length c0_1) ∧ w'.cell? ⟨gb658, 2, none⟩ = some (.int .i64 a0_2) ∧ w'.cell? ⟨gb674, 0, none⟩ = some (.bool t668) ∧ w'.cell? ⟨gb674, 1, none⟩ = some (.slice Ao29 t669.length co29) ∧ w'.cell? ⟨gb674, 2, none⟩ = some (.int .i64 t672)) (ds := []) #[false, false, false, false, false, false, false, false, false, false, false, false, false, false, false, false, false, false, false, false, false, false] (by kernel_rfl) rfl rfl ⟨(blk_cell BK659.out 0).trans rfl, (blk_cell BK659.out 1).trans rfl, (blk_cell BK659.out 2).trans rfl, (blk_cell BK659.out 3).trans rfl, (blk_cell BK660.out 0).trans rfl, (blk_cell BK660.out 1).trans rfl, (blk_cell BK660.out 2).trans rfl, (blk_cell BK660.out 3).trans rfl, (blk_cell BK667.out 0).trans rfl, (blk_cell BK667.out 1).trans rfl, (blk_cell BK667.out 2).trans rfl, (blk_cell BK658.out 0).trans rfl, (blk_cell BK658.out 1).trans rfl, (blk_cell BK658.out 2).trans rfl, (blk_cell BK674.out 0).trans rfl, (blk_cell BK674.out 1).trans rfl, (blk_cell BK674.out 2).trans rfl⟩ (fun hHeld => ?_); refine with_tabW peloruslaw06_holds.tab5 peloruslaw06_holds.bits5 (fun HT_ HW_ => ?_)
       generalize wc.drew = w68 at HO_668001 HO_675001 BK658 BK659 BK660 BK667 BK674 HB hHeld ⊢
       refine take_ (i := 0) (N := some 39) (v := ?_) (a' := ?_) #[true, false, false, false, false, false, false, false, false, false, false, false, false, false, false, false, false, false, false, false, false, false] rfl rfl (take_ofW HT_.out HW_.out (by kernel_rfl)) (fun _ _ _ h => h) (Or.inl ⟨by rfl, ?_⟩) hHeld ?_ ?_
       rotate_left
       ·rintro w' ⟨s0, s1, s2, s3, s4, s5, s6, s7, s8, s9, s10, s11, s12, s13, s14, s15, s16⟩
        go_simp
        with_reducible rfl
       rotate_left
       ·exact pt_
       refine take_ (i := 1) (N := some 40) (v := ?_) (a' := ?_) #[true, true, false, false, false, false, false, false, false, false, false, false, false, false, false, false, false, false, false, false, false, false] rfl rfl (take_ofW HT_.out HW_.out (by kernel_rfl)) (fun _ _ _ h => h) (Or.inl ⟨by rfl, ?_⟩) hHeld ?_ ?_
       rotate_left
       ·rintro w' ⟨s0, s1, s2, s3, s4, s5, s6, s7, s8, s9, s10, s11, s12, s13, s14, s15, s16⟩
        go_simp
        with_reducible rfl
       rotate_left
       ·exact pt_
       refine pure_ (i := 2) (N := some 41) (v := ?_) (a' := ?_) #[true, true, true, false, false, false, false, false, false, false, false, false, false, false, false, false, false, false, false, false, false, false] rfl rfl (any_of HT_.out (by kernel_rfl)) (fun _ _ _ h => h) (Or.inl ⟨by rfl, ?_⟩) ?_ ?_
       rotate_left
       ·intro w'
        go_simp
        with_reducible rfl
       rotate_left
       ·exact pt_
       refine pure_ (i := 3) (N := some 42) (v := ?_) (a' := ?_) #[true, true, true, true, false, false, false, false, false, false, false, false, false, false, false, false, false, false, false, false, false, false] rfl rfl (any_of HT_.out (by kernel_rfl)) (fun _ _ _ h => h) (Or.inl ⟨by rfl, ?_⟩) ?_ ?_
       rotate_left
       ·intro w'
        go_simp
        with_reducible rfl
       rotate_left
       ·exact pt_
       refine take_ (i := 4) (N := some 43) (v := ?_) (a' := ?_) #[true, true, true, true, true, false, false, false, false, false, false, false, false, false, false, false, false, false, false, false, false, false] rfl rfl (take_ofW HT_.out HW_.out (by kernel_rfl)) (fun _ _ _ h => h) (Or.inl ⟨by rfl, ?_⟩) hHeld ?_ ?_
       rotate_left
       ·rintro w' ⟨s0, s1, s2, s3, s4, s5, s6, s7, s8, s9, s10, s11, s12, s13, s14, s15, s16⟩
        go_simp
        with_reducible rfl
       rotate_left
       ·exact pt_
       refine take_ (i := 6) (N := some 45) (v := ?_) (a' := ?_) #[true, true, true, true, true, false, true, false, false, false, false, false, false, false, false, false, false, false, false, false, false, false] rfl rfl (take_ofW HT_.out HW_.out (by kernel_rfl)) (fun _ _ _ h => h) (Or.inl ⟨by rfl, ?_⟩) hHeld ?_ ?_
       rotate_left
       ·rintro w' ⟨s0, s1, s2, s3, s4, s5, s6, s7, s8, s9, s10, s11, s12, s13, s14, s15, s16⟩
        go_simp
        with_reducible rfl
       rotate_left
       ·exact pt_
       refine one_ (i := 5) (N := some 44) #[true, true, true, true, true, true, true, false, false, false, false, false, false, false, false, false, false, false, false, false, false, false] rfl rfl (one_of HT_.out (by kernel_rfl)) (by decide) (fun K hK => ?_)
       refine gs_ Tryd.func13 #[.agg #[.int .i64 a1_0, .bool a1_1, .int .u64 a1_2, .int .i64 a1_3], .bool true] ?_
       with_reducible refine (num_Next.calls kj5 a1_0 a1_1 a1_2 a1_3 true t677 t678 t679 t680 _ A63.out).mono ?_
       rintro e w69 ⟨rfl, hb⟩
       refine ⟨_, rfl, ?_⟩
       replace HO_668001 := Aside0.mk (Kd.R_below (kr_ HO_668001.out) hb)
       replace HO_675001 := Aside0.mk (Kd.R_below (kr_ HO_675001.out) hb)
       replace BK658 := kq_ BK658 hb
       replace BK659 := kq_ BK659 hb
       replace BK660 := kq_ BK660 hb
       replace BK667 := kq_ BK667 hb
       replace BK674 := kq_ BK674 hb
       replace HB := bq_ HB hb
       (try clear hb)
       (try clear hb2)
       (try clear hk)
       (try clear hi)
       refine hK.out _ _ ⟨(blk_cell BK659.out 0).trans rfl, (blk_cell BK659.out 1).trans rfl, (blk_cell BK659.out 2).trans rfl, (blk_cell BK659.out 3).trans rfl, (blk_cell BK660.out 0).trans rfl, (blk_cell BK660.out 1).trans rfl, (blk_cell BK660.out 2).trans rfl, (blk_cell BK660.out 3).trans rfl, (blk_cell BK667.out 0).trans rfl, (blk_cell BK667.out 1).trans rfl, (blk_cell BK667.out 2).trans rfl, (blk_cell BK658.out 0).trans rfl, (blk_cell BK658.out 1).trans rfl, (blk_cell BK658.out 2).trans rfl, (blk_cell BK674.out 0).trans rfl, (blk_cell BK674.out 1).trans rfl, (blk_cell BK674.out 2).trans rfl⟩ (fun hHeld => ?_)
       clear hK K
       refine norm_ (a' := ?_) ?_ ?_
       rotate_left
       ·show Act.put _ (some 44) _ = _
        exact pt_
       refine pure_ (i := 7) (N := some 46) (v := ?_) (a' := ?_) #[true, true, true, true, true, true, true, true, false, false, false, false, false, false, false, false, false, false, false, false, false, false] rfl rfl (any_of HT_.out (by kernel_rfl)) (fun _ _ _ h => h) (Or.inl ⟨by rfl, ?_⟩) ?_ ?_
       rotate_left
       ·intro w'
        go_simp
        with_reducible rfl
       rotate_left
       ·exact pt_
       refine pure_ (i := 8) (N := some 47) (v := ?_) (a' := ?_) #[true, true, true, true, true, true, true, true, true, false, false, false, false, false, false, false, false, false, false, false, false, false] rfl rfl (any_of HT_.out (by kernel_rfl)) (fun _ _ _ h => h) (Or.inl ⟨by rfl, ?_⟩) ?_ ?_
       rotate_left
       ·intro w'
        go_simp
        with_reducible rfl
       rotate_left
       ·exact pt_
       refine take_ (i := 9) (N := some 48) (v := ?_) (a' := ?_) #[true, true, true, true, true, true, true, true, true, true, false, false, false, false, false, false, false, false, false, false, false, false] rfl rfl (take_ofW HT_.out HW_.out (by kernel_rfl)) (fun _ _ _ h => h) (Or.inl ⟨by rfl, ?_⟩) hHeld ?_ ?_
       rotate_left
       ·rintro w' ⟨s0, s1, s2, s3, s4, s5, s6, s7, s8, s9, s10, s11, s12, s13, s14, s15, s16⟩
        go_simp
        with_reducible rfl
       rotate_left
       ·exact pt_
       refine take_ (i := 10) (N := some 49) (v := ?_) (a' := ?_) #[true, true, true, true, true, true, true, true, true, true, true, false, false, false, false, false, false, false, false, false, false, false] rfl rfl (take_ofW HT_.out HW_.out (by kernel_rfl)) (fun _ _ _ h => h) (Or.inl ⟨by rfl, ?_⟩) hHeld ?_ ?_
       rotate_left
       ·rintro w' ⟨s0, s1, s2, s3, s4, s5, s6, s7, s8, s9, s10, s11, s12, s13, s14, s15, s16⟩
        go_simp
        with_reducible rfl
       rotate_left
       ·exact pt_
       refine one_ (i := 11) (N := some 50) #[true, true, true, true, true, true, true, true, true, true, true, true, false, false, false, false, false, false, false, false, false, false] rfl rfl (one_of HT_.out (by kernel_rfl)) (by decide) (fun K hK => ?_)
       refine gs_ Tryd.func22 #[.agg #[.bool t661, .slice Ao19 t662.length co19, .int .i64 t665], .agg #[.bool a0_0, .slice A0_1 l0_1.length c0_1, .int .i64 a0_2]] ?_
       with_reducible refine (dy_Cmp.calls kj5 t661 _ _ t662 t665 a0_0 _ _ l0_1 a0_2 t681 _ ?side1 ?side2 ?side3 ?side4 A65.out ?sidet).mono ?_
       (case sidet => exact Kd.C_below HTAB.out (bw_ HB.out))
       (case side1 => exact kc_ (Kd.R_reads' HO_668001.out).2.2)
       (case side2 => exact (Kd.R_reads' HO_668001.out).2.1)
       (case side3 => exact kc_ (Kd.C_below HR0_1.out HB.out))
       (case side4 => exact HC0_1.out)
       rintro e w70 ⟨rfl, hb⟩
       refine ⟨_, rfl, ?_⟩
       replace HO_668001 := Aside0.mk (Kd.R_below (kr_ HO_668001.out) hb)
       replace HO_675001 := Aside0.mk (Kd.R_below (kr_ HO_675001.out) hb)
       replace BK658 := kq_ BK658 hb
       replace BK659 := kq_ BK659 hb
       replace BK660 := kq_ BK660 hb
       replace BK667 := kq_ BK667 hb
       replace BK674 := kq_ BK674 hb
       replace HB := bq_ HB hb
       (try clear hb)
       (try clear hb2)
       (try clear hk)
       (try clear hi)
       refine hK.out _ _ ⟨(blk_cell BK659.out 0).trans rfl, (blk_cell BK659.out 1).trans rfl, (blk_cell BK659.out 2).trans rfl, (blk_cell BK659.out 3).trans rfl, (blk_cell BK660.out 0).trans rfl, (blk_cell BK660.out 1).trans rfl, (blk_cell BK660.out 2).trans rfl, (blk_cell BK660.out 3).trans rfl, (blk_cell BK667.out 0).trans rfl, (blk_cell BK667.out 1).trans rfl, (blk_cell BK667.out 2).trans rfl, (blk_cell BK658.out 0).trans rfl, (blk_cell BK658.out 1).trans rfl, (blk_cell BK658.out 2).trans rfl, (blk_cell BK674.out 0).trans rfl, (blk_cell BK674.out 1).trans rfl, (blk_cell BK674.out 2).trans rfl⟩ (fun hHeld => ?_)
       clear hK K
       refine norm_ (a' := ?_) ?_ ?_
       rotate_left
       ·show Act.put _ (some 50) _ = _
        exact pt_
       refine pure_ (i := 12) (N := some 51) (v := ?_) (a' := ?_) #[true, true, true, true, true, true, true, true, true, true, true, true, true, false, false, false, false, false, false, false, false, false] rfl rfl (any_of HT_.out (by kernel_rfl)) (fun _ _ _ h => h) (Or.inl ⟨by rfl, ?_⟩) ?_ ?_
       rotate_left
       ·intro w'
        go_simp
        with_reducible rfl
       rotate_left
       ·exact pt_
       refine pure_ (i := 13) (N := some 52) (v := ?_) (a' := ?_) #[true, true, true, true, true, true, true, true, true, true, true, true, true, true, false, false, false, false, false, false, false, false] rfl rfl (any_of HT_.out (by kernel_rfl)) (fun _ _ _ h => h) (Or.inl ⟨by rfl, ?_⟩) ?_ ?_
       rotate_left
       ·intro w'
        go_simp
        with_reducible rfl
       rotate_left
       ·exact pt_
       refine pure_ (i := 14) (N := some 53) (v := ?_) (a' := ?_) #[true, true, true, true, true, true, true, true, true, true, true, true, true, true, true, false, false, false, false, false, false, false] rfl rfl (any_of HT_.out (by kernel_rfl)) (fun _ _ _ h => h) (Or.inl ⟨by rfl, ?_⟩) ?_ ?_
       rotate_left
       ·intro w'
        go_simp
        with_reducible rfl
       rotate_left
       ·exact pt_
       refine take_ (i := 15) (N := some 54) (v := ?_) (a' := ?_) #[true, true, true, true, true, true, true, true, true, true, true, true, true, true, true, true, false, false, false, false, false, false] rfl rfl (take_ofW HT_.out HW_.out (by kernel_rfl)) (fun _ _ _ h => h) (Or.inl ⟨by rfl, ?_⟩) hHeld ?_ ?_
       rotate_left
       ·rintro w' ⟨s0, s1, s2, s3, s4, s5, s6, s7, s8, s9, s10, s11, s12, s13, s14, s15, s16⟩
        go_simp
        with_reducible rfl
       rotate_left
       ·exact pt_
       refine take_ (i := 16) (N := some 55) (v := ?_) (a' := ?_) #[true, true, true, true, true, true, true, true, true, true, true, true, true, true, true, true, true, false, false, false, false, false] rfl rfl (take_ofW HT_.out HW_.out (by kernel_rfl)) (fun _ _ _ h => h) (Or.inl ⟨by rfl, ?_⟩) hHeld ?_ ?_
       rotate_left
       ·rintro w' ⟨s0, s1, s2, s3, s4, s5, s6, s7, s8, s9, s10, s11, s12, s13, s14, s15, s16⟩
        go_simp
        with_reducible rfl
       rotate_left
       ·exact pt_
       refine one_ (i := 17) (N := some 56) #[true, true, true, true, true, true, true, true, true, true, true, true, true, true, true, true, true, true, false, false, false, false] rfl rfl (one_of HT_.out (by kernel_rfl)) (by decide) (fun K hK => ?_)
       refine gs_ Tryd.func22 #[.agg #[.bool a0_0, .slice A0_1 l0_1.length c0_1, .int .i64 a0_2], .agg #[.bool t668, .slice Ao29 t669.length co29, .int .i64 t672]] ?_
       with_reducible refine (dy_Cmp.calls kj5 a0_0 _ _ l0_1 a0_2 t668 _ _ t669 t672 t682 _ ?side1 ?side2 ?side3 ?side4 A67.out ?sidet).mono ?_
       (case sidet => exact Kd.C_below HTAB.out (bw_ HB.out))
       (case side1 => exact kc_ (Kd.C_below HR0_1.out HB.out))
       (case side2 => exact HC0_1.out)
       (case side3 => exact kc_ (Kd.R_reads' HO_675001.out).2.2)
       (case side4 => exact (Kd.R_reads' HO_675001.out).2.1)
       rintro e w71 ⟨rfl, hb⟩
       refine ⟨_, rfl, ?_⟩
       replace HO_668001 := Aside0.mk (Kd.R_below (kr_ HO_668001.out) hb)
       replace HO_675001 := Aside0.mk (Kd.R_below (kr_ HO_675001.out) hb)
       replace BK658 := kq_ BK658 hb
       replace BK659 := kq_ BK659 hb
       replace BK660 := kq_ BK660 hb
       replace BK667 := kq_ BK667 hb
       replace BK674 := kq_ BK674 hb
       replace HB := bq_ HB hb
       (try clear hb)
       (try clear hb2)
       (try clear hk)
       (try clear hi)
       refine hK.out _ _ ⟨(blk_cell BK659.out 0).trans rfl, (blk_cell BK659.out 1).trans rfl, (blk_cell BK659.out 2).trans rfl, (blk_cell BK659.out 3).trans rfl, (blk_cell BK660.out 0).trans rfl, (blk_cell BK660.out 1).trans rfl, (blk_cell BK660.out 2).trans rfl, (blk_cell BK660.out 3).trans rfl, (blk_cell BK667.out 0).trans rfl, (blk_cell BK667.out 1).trans rfl, (blk_cell BK667.out 2).trans rfl, (blk_cell BK658.out 0).trans rfl, (blk_cell BK658.out 1).trans rfl, (blk_cell BK658.out 2).trans rfl, (blk_cell BK674.out 0).trans rfl, (blk_cell BK674.out 1).trans rfl, (blk_cell BK674.out 2).trans rfl⟩ (fun hHeld => ?_)
       clear hK K
       refine norm_ (a' := ?_) ?_ ?_
       rotate_left
       ·show Act.put _ (some 56) _ = _
        exact pt_
       refine pure_ (i := 18) (N := some 57) (v := ?_) (a' := ?_) #[true, true, true, true, true, true, true, true, true, true, true, true, true, true, true, true, true, true, true, false, false, false] rfl rfl (any_of HT_.out (by kernel_rfl)) (fun _ _ _ h => h) (Or.inl ⟨by rfl, ?_⟩) ?_ ?_
       rotate_left
       ·intro w'
        go_simp
        with_reducible rfl
       rotate_left
       ·exact pt_
       refine pure_ (i := 19) (N := some 58) (v := ?_) (a' := ?_) #[true, true, true, true, true, true, true, true, true, true, true, true, true, true, true, true, true, true, true, true, false, false] rfl rfl (any_of HT_.out (by kernel_rfl)) (fun _ _ _ h => h) (Or.inl ⟨by rfl, ?_⟩) ?_ ?_
       rotate_left
       ·intro w'
        go_simp
        with_reducible rfl
       rotate_left
       ·exact pt_
       refine pure_ (i := 20) (N := some 59) (v := ?_) (a' := ?_) #[true, true, true, true, true, true, true, true, true, true, true, true, true, true, true, true, true, true, true, true, true, false] rfl rfl (any_of HT_.out (by kernel_rfl)) (fun _ _ _ h => h) (Or.inl ⟨by rfl, ?_⟩) ?_ ?_
       rotate_left
       ·intro w'
        go_simp
        with_reducible rfl
       rotate_left
       ·exact pt_
       refine pure_ (i := 21) (N := some 6) (v := ?_) (a' := ?_) #[true, true, true, true, true, true, true, true, true, true, true, true, true, true, true, true, true, true, true, true, true, true] rfl rfl (any_of HT_.out (by kernel_rfl)) (fun _ _ _ h => h) (Or.inl ⟨by rfl, ?_⟩) ?_ ?_
       rotate_left
       ·intro w'
        go_simp
        with_reducible rfl
       rotate_left
       ·exact pt_
       refine done_ (done_of HT_.out (by kernel_rfl)) ?_
       try go_wp2
       go_ret
       exact ⟨rf_, bw_ HB.out⟩
      ·rw [if_neg c66] at H
       have c66b0 : decide (t681 < 0) = false := decide_eq_false c66
       clear c66
       obtain rfl := Option.some.inj H
       try go_wp2
       replace HO_668001 := Aside0.mk (Kd.R_drew HO_668001.out)
       replace HO_675001 := Aside0.mk (Kd.R_drew HO_675001.out)
       replace BK658 := Aside0.mk (blk_drew BK658.out)
       replace BK659 := Aside0.mk (blk_drew BK659.out)
       replace BK660 := Aside0.mk (blk_drew BK660.out)
       replace BK667 := Aside0.mk (blk_drew BK667.out)
       replace BK674 := Aside0.mk (blk_drew BK674.out)
       replace HB := Aside0.mk (below_drew1 HB.out)
       refine start_ (n := 22) (S := fun w' => w'.cell? ⟨gb659, 0, none⟩ = some (.int .i64 a1_0) ∧ w'.cell? ⟨gb659, 1, none⟩ = some (.bool a1_1) ∧ w'.cell? ⟨gb659, 2, none⟩ = some (.int .u64 a1_2) ∧ w'.cell? ⟨gb659, 3, none⟩ = some (.int .i64 a1_3) ∧ w'.cell? ⟨gb660, 0, none⟩ = some (.int .i64 a2_0) ∧ w'.cell? ⟨gb660, 1, none⟩ = some (.bool a2_1) ∧ w'.cell? ⟨gb660, 2, none⟩ = some (.int .u64 a2_2) ∧ w'.cell? ⟨gb660, 3, none⟩ = some (.int .i64 a2_3) ∧ w'.cell? ⟨gb667, 0, none⟩ = some (.bool t661) ∧ w'.cell? ⟨gb667, 1, none⟩ = some (.slice Ao19 t662.length co19) ∧ w'.cell? ⟨gb667, 2, none⟩ = some (.int .i64 t665) ∧ w'.cell? ⟨gb658, 0, none⟩ = some (.bool a0_0) ∧ w'.cell? ⟨gb658, 1, none⟩ = some (.slice A0_1 l0_1.length c0_1) ∧ w'.cell? ⟨gb658, 2, none⟩ = some (.int .i64 a0_2)) (ds := []) #[false, false, false, false, false, false, false, false, false, false, false, false, false, false, false, false, false, false, false, false, false, false] (by kernel_rfl) rfl rfl ⟨(blk_cell BK659.out 0).trans rfl, (blk_cell BK659.out 1).trans rfl, (blk_cell BK659.out 2).trans rfl, (blk_cell BK659.out 3).trans rfl, (blk_cell BK660.out 0).trans rfl, (blk_cell BK660.out 1).trans rfl, (blk_cell BK660.out 2).trans rfl, (blk_cell BK660.out 3).trans rfl, (blk_cell BK667.out 0).trans rfl, (blk_cell BK667.out 1).trans rfl, (blk_cell BK667.out 2).trans rfl, (blk_cell BK658.out 0).trans rfl, (blk_cell BK658.out 1).trans rfl, (blk_cell BK658.out 2).trans rfl⟩ (fun hHeld => ?_); refine with_tabW peloruslaw06_holds.tab5 peloruslaw06_holds.bits5 (fun HT_ HW_ => ?_)
       generalize wc.drew = w72 at HO_668001 HO_675001 BK658 BK659 BK660 BK667 BK674 HB hHeld ⊢
       refine take_ (i := 0) (N := some 39) (v := ?_) (a' := ?_) #[true, false, false, false, false, false, false, false, false, false, false, false, false, false, false, false, false, false, false, false, false, false] rfl rfl (take_ofW HT_.out HW_.out (by kernel_rfl)) (fun _ _ _ h => h) (Or.inl ⟨by rfl, ?_⟩) hHeld ?_ ?_
       rotate_left
       ·rintro w' ⟨s0, s1, s2, s3, s4, s5, s6, s7, s8, s9, s10, s11, s12, s13⟩
        go_simp
        with_reducible rfl
       rotate_left
       ·exact pt_
       refine take_ (i := 1) (N := some 40) (v := ?_) (a' := ?_) #[true, true, false, false, false, false, false, false, false, false, false, false, false, false, false, false, false, false, false, false, false, false] rfl rfl (take_ofW HT_.out HW_.out (by kernel_rfl)) (fun _ _ _ h => h) (Or.inl ⟨by rfl, ?_⟩) hHeld ?_ ?_
       rotate_left
       ·rintro w' ⟨s0, s1, s2, s3, s4, s5, s6, s7, s8, s9, s10, s11, s12, s13⟩
        go_simp
        with_reducible rfl
       rotate_left
       ·exact pt_
       refine pure_ (i := 2) (N := some 41) (v := ?_) (a' := ?_) #[true, true, true, false, false, false, false, false, false, false, false, false, false, false, false, false, false, false, false, false, false, false] rfl rfl (any_of HT_.out (by kernel_rfl)) (fun _ _ _ h => h) (Or.inl ⟨by rfl, ?_⟩) ?_ ?_
       rotate_left
       ·intro w'
        go_simp
        with_reducible rfl
       rotate_left
       ·exact pt_
       refine pure_ (i := 3) (N := some 42) (v := ?_) (a' := ?_) #[true, true, true, true, false, false, false, false, false, false, false, false, false, false, false, false, false, false, false, false, false, false] rfl rfl (any_of HT_.out (by kernel_rfl)) (fun _ _ _ h => h) (Or.inl ⟨by rfl, ?_⟩) ?_ ?_
       rotate_left
       ·intro w'
        go_simp
        with_reducible rfl
       rotate_left
       ·exact pt_
       refine take_ (i := 4) (N := some 43) (v := ?_) (a' := ?_) #[true, true, true, true, true, false, false, false, false, false, false, false, false, false, false, false, false, false, false, false, false, false] rfl rfl (take_ofW HT_.out HW_.out (by kernel_rfl)) (fun _ _ _ h => h) (Or.inl ⟨by rfl, ?_⟩) hHeld ?_ ?_
       rotate_left
       ·rintro w' ⟨s0, s1, s2, s3, s4, s5, s6, s7, s8, s9, s10, s11, s12, s13⟩
        go_simp
        with_reducible rfl
       rotate_left
       ·exact pt_
       refine take_ (i := 6) (N := some 45) (v := ?_) (a' := ?_) #[true, true, true, true, true, false, true, false, false, false, false, false, false, false, false, false, false, false, false, false, false, false] rfl rfl (take_ofW HT_.out HW_.out (by kernel_rfl)) (fun _ _ _ h => h) (Or.inl ⟨by rfl, ?_⟩) hHeld ?_ ?_
       rotate_left
       ·rintro w' ⟨s0, s1, s2, s3, s4, s5, s6, s7, s8, s9, s10, s11, s12, s13⟩
        go_simp
        with_reducible rfl
       rotate_left
       ·exact pt_
       refine one_ (i := 5) (N := some 44) #[true, true, true, true, true, true, true, false, false, false, false, false, false, false, false, false, false, false, false, false, false, false] rfl rfl (one_of HT_.out (by kernel_rfl)) (by decide) (fun K hK => ?_)
       refine gs_ Tryd.func13 #[.agg #[.int .i64 a1_0, .bool a1_1, .int .u64 a1_2, .int .i64 a1_3], .bool true] ?_
       with_reducible refine (num_Next.calls kj5 a1_0 a1_1 a1_2 a1_3 true t677 t678 t679 t680 _ A63.out).mono ?_
       rintro e w73 ⟨rfl, hb⟩
       refine ⟨_, rfl, ?_⟩
       replace HO_668001 := Aside0.mk (Kd.R_below (kr_ HO_668001.out) hb)
       replace HO_675001 := Aside0.mk (Kd.R_below (kr_ HO_675001.out) hb)
       replace BK658 := kq_ BK658 hb
       replace BK659 := kq_ BK659 hb
       replace BK660 := kq_ BK660 hb
       replace BK667 := kq_ BK667 hb
       replace BK674 := kq_ BK674 hb
       replace HB := bq_ HB hb
       (try clear hb)
       (try clear hb2)
       (try clear hk)
       (try clear hi)
       refine hK.out _ _ ⟨(blk_cell BK659.out 0).trans rfl, (blk_cell BK659.out 1).trans rfl, (blk_cell BK659.out 2).trans rfl, (blk_cell BK659.out 3).trans rfl, (blk_cell BK660.out 0).trans rfl, (blk_cell BK660.out 1).trans rfl, (blk_cell BK660.out 2).trans rfl, (blk_cell BK660.out 3).trans rfl, (blk_cell BK667.out 0).trans rfl, (blk_cell BK667.out 1).trans rfl, (blk_cell BK667.out 2).trans rfl, (blk_cell BK658.out 0).trans rfl, (blk_cell BK658.out 1).trans rfl, (blk_cell BK658.out 2).trans rfl⟩ (fun hHeld => ?_)
       clear hK K
       refine norm_ (a' := ?_) ?_ ?_
       rotate_left
       ·show Act.put _ (some 44) _ = _
        exact pt_
       refine pure_ (i := 7) (N := some 46) (v := ?_) (a' := ?_) #[true, true, true, true, true, true, true, true, false, false, false, false, false, false, false, false, false, false, false, false, false, false] rfl rfl (any_of HT_.out (by kernel_rfl)) (fun _ _ _ h => h) (Or.inl ⟨by rfl, ?_⟩) ?_ ?_
       rotate_left
       ·intro w'
        go_simp
        with_reducible rfl
       rotate_left
       ·exact pt_
       refine pure_ (i := 8) (N := some 47) (v := ?_) (a' := ?_) #[true, true, true, true, true, true, true, true, true, false, false, false, false, false, false, false, false, false, false, false, false, false] rfl rfl (any_of HT_.out (by kernel_rfl)) (fun _ _ _ h => h) (Or.inl ⟨by rfl, ?_⟩) ?_ ?_
       rotate_left
       ·intro w'
        go_simp
        with_reducible rfl
       rotate_left
       ·exact pt_
       refine take_ (i := 9) (N := some 48) (v := ?_) (a' := ?_) #[true, true, true, true, true, true, true, true, true, true, false, false, false, false, false, false, false, false, false, false, false, false] rfl rfl (take_ofW HT_.out HW_.out (by kernel_rfl)) (fun _ _ _ h => h) (Or.inl ⟨by rfl, ?_⟩) hHeld ?_ ?_
       rotate_left
       ·rintro w' ⟨s0, s1, s2, s3, s4, s5, s6, s7, s8, s9, s10, s11, s12, s13⟩
        go_simp
        with_reducible rfl
       rotate_left
       ·exact pt_
       refine take_ (i := 10) (N := some 49) (v := ?_) (a' := ?_) #[true, true, true, true, true, true, true, true, true, true, true, false, false, false, false, false, false, false, false, false, false, false] rfl rfl (take_ofW HT_.out HW_.out (by kernel_rfl)) (fun _ _ _ h => h) (Or.inl ⟨by rfl, ?_⟩) hHeld ?_ ?_
       rotate_left
       ·rintro w' ⟨s0, s1, s2, s3, s4, s5, s6, s7, s8, s9, s10, s11, s12, s13⟩
        go_simp
        with_reducible rfl
       rotate_left
       ·exact pt_
       refine one_ (i := 11) (N := some 50) #[true, true, true, true, true, true, true, true, true, true, true, true, false, false, false, false, false, false, false, false, false, false] rfl rfl (one_of HT_.out (by kernel_rfl)) (by decide) (fun K hK => ?_)
       refine gs_ Tryd.func22 #[.agg #[.bool t661, .slice Ao19 t662.length co19, .int .i64 t665], .agg #[.bool a0_0, .slice A0_1 l0_1.length c0_1, .int .i64 a0_2]] ?_
       with_reducible refine (dy_Cmp.calls kj5 t661 _ _ t662 t665 a0_0 _ _ l0_1 a0_2 t681 _ ?side1 ?side2 ?side3 ?side4 A65.out ?sidet).mono ?_
       (case sidet => exact Kd.C_below HTAB.out (bw_ HB.out))
       (case side1 => exact kc_ (Kd.R_reads' HO_668001.out).2.2)
       (case side2 => exact (Kd.R_reads' HO_668001.out).2.1)
       (case side3 => exact kc_ (Kd.C_below HR0_1.out HB.out))
       (case side4 => exact HC0_1.out)
       rintro e w74 ⟨rfl, hb⟩
       refine ⟨_, rfl, ?_⟩
       replace HO_668001 := Aside0.mk (Kd.R_below (kr_ HO_668001.out) hb)
       replace HO_675001 := Aside0.mk (Kd.R_below (kr_ HO_675001.out) hb)
       replace BK658 := kq_ BK658 hb
       replace BK659 := kq_ BK659 hb
       replace BK660 := kq_ BK660 hb
       replace BK667 := kq_ BK667 hb
       replace BK674 := kq_ BK674 hb
       replace HB := bq_ HB hb
       (try clear hb)
       (try clear hb2)
       (try clear hk)
       (try clear hi)
       refine hK.out _ _ ⟨(blk_cell BK659.out 0).trans rfl, (blk_cell BK659.out 1).trans rfl, (blk_cell BK659.out 2).trans rfl, (blk_cell BK659.out 3).trans rfl, (blk_cell BK660.out 0).trans rfl, (blk_cell BK660.out 1).trans rfl, (blk_cell BK660.out 2).trans rfl, (blk_cell BK660.out 3).trans rfl, (blk_cell BK667.out 0).trans rfl, (blk_cell BK667.out 1).trans rfl, (blk_cell BK667.out 2).trans rfl, (blk_cell BK658.out 0).trans rfl, (blk_cell BK658.out 1).trans rfl, (blk_cell BK658.out 2).trans rfl⟩ (fun hHeld => ?_)
       clear hK K
       refine norm_ (a' := ?_) ?_ ?_
       rotate_left
       ·show Act.put _ (some 50) _ = _
        exact pt_
       refine pure_ (i := 12) (N := some 51) (v := ?_) (a' := ?_) #[true, true, true, true, true, true, true, true, true, true, true, true, true, false, false, false, false, false, false, false, false, false] rfl rfl (any_of HT_.out (by kernel_rfl)) (fun _ _ _ h => h) (Or.inl ⟨by rfl, ?_⟩) ?_ ?_
       rotate_left
       ·intro w'
        go_simp
        with_reducible rfl
       rotate_left
       ·exact pt_
       refine pure_ (i := 13) (N := some 52) (v := ?_) (a' := ?_) #[true, true, true, true, true, true, true, true, true, true, true, true, true, true, false, false, false, false, false, false, false, false] rfl rfl (any_of HT_.out (by kernel_rfl)) (fun _ _ _ h => h) (Or.inl ⟨by rfl, ?_⟩) ?_ ?_
       rotate_left
       ·intro w'
        go_simp
        with_reducible rfl
       rotate_left
       ·exact pt_
       refine pure_ (i := 14) (N := some 53) (v := ?_) (a' := ?_) #[true, true, true, true, true, true, true, true, true, true, true, true, true, true, true, false, false, false, false, false, false, false] rfl rfl (any_of HT_.out (by kernel_rfl)) (fun _ _ _ h => h) (Or.inl ⟨by rfl, ?_⟩) ?_ ?_
       rotate_left
       ·intro w'
        go_simp
        with_reducible rfl
       rotate_left
       ·exact pt_
       refine pure_ (i := 15) (N := some 54) (v := undef) (a' := ?_) #[true, true, true, true, true, true, true, true, true, true, true, true, true, true, true, true, false, false, false, false, false, false] rfl rfl (any_of HT_.out (by kernel_rfl)) (fun _ _ _ h => h) (Or.inr ⟨by rfl, rfl⟩) ?_ ?_
       rotate_left
       ·exact pt_
       refine pure_ (i := 16) (N := some 55) (v := undef) (a' := ?_) #[true, true, true, true, true, true, true, true, true, true, true, true, true, true, true, true, true, false, false, false, false, false] rfl rfl (any_of HT_.out (by kernel_rfl)) (fun _ _ _ h => h) (Or.inr ⟨by rfl, rfl⟩) ?_ ?_
       rotate_left
       ·exact pt_
       refine pure_ (i := 17) (N := some 56) (v := undef) (a' := ?_) #[true, true, true, true, true, true, true, true, true, true, true, true, true, true, true, true, true, true, false, false, false, false] rfl rfl (any_of HT_.out (by kernel_rfl)) (fun _ _ _ h => h) (Or.inr ⟨by rfl, rfl⟩) ?_ ?_
       rotate_left
       ·exact pt_
       refine pure_ (i := 18) (N := some 57) (v := undef) (a' := ?_) #[true, true, true, true, true, true, true, true, true, true, true, true, true, true, true, true, true, true, true, false, false, false] rfl rfl (any_of HT_.out (by kernel_rfl)) (fun _ _ _ h => h) (Or.inr ⟨by rfl, rfl⟩) ?_ ?_
       rotate_left
       ·exact pt_
       refine pure_ (i := 19) (N := some 58) (v := ?_) (a' := ?_) #[true, true, true, true, true, true, true, true, true, true, true, true, true, true, true, true, true, true, true, true, false, false] rfl rfl (any_of HT_.out (by kernel_rfl)) (fun _ _ _ h => h) (Or.inl ⟨by rfl, ?_⟩) ?_ ?_
       rotate_left
       ·intro w'
        go_simp
        with_reducible rfl
       rotate_left
       ·exact pt_
       refine pure_ (i := 20) (N := some 59) (v := ?_) (a' := ?_) #[true, true, true, true, true, true, true, true, true, true, true, true, true, true, true, true, true, true, true, true, true, false] rfl rfl (any_of HT_.out (by kernel_rfl)) (fun _ _ _ h => h) (Or.inl ⟨by rfl, ?_⟩) ?_ ?_
       rotate_left
       ·intro w'
        go_simp
        with_reducible rfl
       rotate_left
       ·exact pt_
       refine pure_ (i := 21) (N := some 6) (v := ?_) (a' := ?_) #[true, true, true, true, true, true, true, true, true, true, true, true, true, true, true, true, true, true, true, true, true, true] rfl rfl (any_of HT_.out (by kernel_rfl)) (fun _ _ _ h => h) (Or.inl ⟨by rfl, ?_⟩) ?_ ?_
       rotate_left
       ·intro w'
        go_simp
        with_reducible rfl
       rotate_left
       ·exact pt_
       refine done_ (done_of HT_.out (by kernel_rfl)) ?_
       try go_wp2
       go_ret
       exact ⟨rf_, bw_ HB.out⟩
     ·rw [if_neg c64] at H
      have c64b0 : (t677 == a2_0 && (t678 == a2_1 && (t679 == a2_2 && (t680 == a2_3)))) = false := by simpa using c64
      (try (have c64b1 : decide (t677 = a2_0 && (t678 == a2_1 && (t679 == a2_2 && (t680 == a2_3)))) = false := by simpa using c64))
      (try (have c64b2 : (t677 == a2_0 && (t678 == a2_1 && (t679 == a2_2 && (t680 == a2_3)))) = false := by simpa using c64))
      (try (have c64b3 : ¬ (t677 = a2_0 && (t678 == a2_1 && (t679 == a2_2 && (t680 == a2_3)))) := by simpa using c64))
      clear c64
      obtain rfl := Option.some.inj H
      try go_wp2
      replace HO_668001 := Aside0.mk (Kd.R_drew HO_668001.out)
      replace HO_675001 := Aside0.mk (Kd.R_drew HO_675001.out)
      replace BK658 := Aside0.mk (blk_drew BK658.out)
      replace BK659 := Aside0.mk (blk_drew BK659.out)
      replace BK660 := Aside0.mk (blk_drew BK660.out)
      replace BK667 := Aside0.mk (blk_drew BK667.out)
      replace BK674 := Aside0.mk (blk_drew BK674.out)
      replace HB := Aside0.mk (below_drew1 HB.out)
      refine start_ (n := 22) (S := fun w' => w'.cell? ⟨gb659, 0, none⟩ = some (.int .i64 a1_0) ∧ w'.cell? ⟨gb659, 1, none⟩ = some (.bool a1_1) ∧ w'.cell? ⟨gb659, 2, none⟩ = some (.int .u64 a1_2) ∧ w'.cell? ⟨gb659, 3, none⟩ = some (.int .i64 a1_3) ∧ w'.cell? ⟨gb660, 0, none⟩ = some (.int .i64 a2_0) ∧ w'.cell? ⟨gb660, 1, none⟩ = some (.bool a2_1) ∧ w'.cell? ⟨gb660, 2, none⟩ = some (.int .u64 a2_2) ∧ w'.cell? ⟨gb660, 3, none⟩ = some (.int .i64 a2_3)) (ds := []) #[false, false, false, false, false, false, false, false, false, false, false, false, false, false, false, false, false, false, false, false, false, false] (by kernel_rfl) rfl rfl ⟨(blk_cell BK659.out 0).trans rfl, (blk_cell BK659.out 1).trans rfl, (blk_cell BK659.out 2).trans rfl, (blk_cell BK659.out 3).trans rfl, (blk_cell BK660.out 0).trans rfl, (blk_cell BK660.out 1).trans rfl, (blk_cell BK660.out 2).trans rfl, (blk_cell BK660.out 3).trans rfl⟩ (fun hHeld => ?_); refine with_tabW peloruslaw06_holds.tab5 peloruslaw06_holds.bits5 (fun HT_ HW_ => ?_)
      generalize wc.drew = w75 at HO_668001 HO_675001 BK658 BK659 BK660 BK667 BK674 HB hHeld ⊢
      refine take_ (i := 0) (N := some 39) (v := ?_) (a' := ?_) #[true, false, false, false, false, false, false, false, false, false, false, false, false, false, false, false, false, false, false, false, false, false] rfl rfl (take_ofW HT_.out HW_.out (by kernel_rfl)) (fun _ _ _ h => h) (Or.inl ⟨by rfl, ?_⟩) hHeld ?_ ?_
      rotate_left
      ·rintro w' ⟨s0, s1, s2, s3, s4, s5, s6, s7⟩
       go_simp
       with_reducible rfl
      rotate_left
      ·exact pt_
      refine take_ (i := 1) (N := some 40) (v := ?_) (a' := ?_) #[true, true, false, false, false, false, false, false, false, false, false, false, false, false, false, false, false, false, false, false, false, false] rfl rfl (take_ofW HT_.out HW_.out (by kernel_rfl)) (fun _ _ _ h => h) (Or.inl ⟨by rfl, ?_⟩) hHeld ?_ ?_
      rotate_left
      ·rintro w' ⟨s0, s1, s2, s3, s4, s5, s6, s7⟩
       go_simp
       with_reducible rfl
      rotate_left
      ·exact pt_
      refine pure_ (i := 2) (N := some 41) (v := ?_) (a' := ?_) #[true, true, true, false, false, false, false, false, false, false, false, false, false, false, false, false, false, false, false, false, false, false] rfl rfl (any_of HT_.out (by kernel_rfl)) (fun _ _ _ h => h) (Or.inl ⟨by rfl, ?_⟩) ?_ ?_
      rotate_left
      ·intro w'
       go_simp
       with_reducible rfl
      rotate_left
      ·exact pt_
      refine pure_ (i := 3) (N := some 42) (v := ?_) (a' := ?_) #[true, true, true, true, false, false, false, false, false, false, false, false, false, false, false, false, false, false, false, false, false, false] rfl rfl (any_of HT_.out (by kernel_rfl)) (fun _ _ _ h => h) (Or.inl ⟨by rfl, ?_⟩) ?_ ?_
      rotate_left
      ·intro w'
       go_simp
       with_reducible rfl
      rotate_left
      ·exact pt_
      refine take_ (i := 4) (N := some 43) (v := ?_) (a' := ?_) #[true, true, true, true, true, false, false, false, false, false, false, false, false, false, false, false, false, false, false, false, false, false] rfl rfl (take_ofW HT_.out HW_.out (by kernel_rfl)) (fun _ _ _ h => h) (Or.inl ⟨by rfl, ?_⟩) hHeld ?_ ?_
      rotate_left
      ·rintro w' ⟨s0, s1, s2, s3, s4, s5, s6, s7⟩
       go_simp
       with_reducible rfl
      rotate_left
      ·exact pt_
      refine take_ (i := 6) (N := some 45) (v := ?_) (a' := ?_) #[true, true, true, true, true, false, true, false, false, false, false, false, false, false, false, false, false, false, false, false, false, false] rfl rfl (take_ofW HT_.out HW_.out (by kernel_rfl)) (fun _ _ _ h => h) (Or.inl ⟨by rfl, ?_⟩) hHeld ?_ ?_
      rotate_left
      ·rintro w' ⟨s0, s1, s2, s3, s4, s5, s6, s7⟩
       go_simp
       with_reducible rfl
      rotate_left
      ·exact pt_
      refine one_ (i := 5) (N := some 44) #[true, true, true, true, true, true, true, false, false, false, false, false, false, false, false, false, false, false, false, false, false, false] rfl rfl (one_of HT_.out (by kernel_rfl)) (by decide) (fun K hK => ?_)
      refine gs_ Tryd.func13 #[.agg #[.int .i64 a1_0, .bool a1_1, .int .u64 a1_2, .int .i64 a1_3], .bool true] ?_
      with_reducible refine (num_Next.calls kj5 a1_0 a1_1 a1_2 a1_3 true t677 t678 t679 t680 _ A63.out).mono ?_
      rintro e w76 ⟨rfl, hb⟩
      refine ⟨_, rfl, ?_⟩
      replace HO_668001 := Aside0.mk (Kd.R_below (kr_ HO_668001.out) hb)
      replace HO_675001 := Aside0.mk (Kd.R_below (kr_ HO_675001.out) hb)
      replace BK658 := kq_ BK658 hb
      replace BK659 := kq_ BK659 hb
      replace BK660 := kq_ BK660 hb
      replace BK667 := kq_ BK667 hb
      replace BK674 := kq_ BK674 hb
      replace HB := bq_ HB hb
      (try clear hb)
      (try clear hb2)
      (try clear hk)
      (try clear hi)
      refine hK.out _ _ ⟨(blk_cell BK659.out 0).trans rfl, (blk_cell BK659.out 1).trans rfl, (blk_cell BK659.out 2).trans rfl, (blk_cell BK659.out 3).trans rfl, (blk_cell BK660.out 0).trans rfl, (blk_cell BK660.out 1).trans rfl, (blk_cell BK660.out 2).trans rfl, (blk_cell BK660.out 3).trans rfl⟩ (fun hHeld => ?_)
      clear hK K
      refine norm_ (a' := ?_) ?_ ?_
      rotate_left
      ·show Act.put _ (some 44) _ = _
       exact pt_
      refine pure_ (i := 7) (N := some 46) (v := ?_) (a' := ?_) #[true, true, true, true, true, true, true, true, false, false, false, false, false, false, false, false, false, false, false, false, false, false] rfl rfl (any_of HT_.out (by kernel_rfl)) (fun _ _ _ h => h) (Or.inl ⟨by rfl, ?_⟩) ?_ ?_
      rotate_left
      ·intro w'
       go_simp
       with_reducible rfl
      rotate_left
      ·exact pt_
      refine pure_ (i := 8) (N := some 47) (v := ?_) (a' := ?_) #[true, true, true, true, true, true, true, true, true, false, false, false, false, false, false, false, false, false, false, false, false, false] rfl rfl (any_of HT_.out (by kernel_rfl)) (fun _ _ _ h => h) (Or.inl ⟨by rfl, ?_⟩) ?_ ?_
      rotate_left
      ·intro w'
       go_simp
       with_reducible rfl
      rotate_left
      ·exact pt_
      refine pure_ (i := 9) (N := some 48) (v := undef) (a' := ?_) #[true, true, true, true, true, true, true, true, true, true, false, false, false, false, false, false, false, false, false, false, false, false] rfl rfl (any_of HT_.out (by kernel_rfl)) (fun _ _ _ h => h) (Or.inr ⟨by rfl, rfl⟩) ?_ ?_
      rotate_left
      ·exact pt_
      refine pure_ (i := 10) (N := some 49) (v := undef) (a' := ?_) #[true, true, true, true, true, true, true, true, true, true, true, false, false, false, false, false, false, false, false, false, false, false] rfl rfl (any_of HT_.out (by kernel_rfl)) (fun _ _ _ h => h) (Or.inr ⟨by rfl, rfl⟩) ?_ ?_
      rotate_left
      ·exact pt_
      refine pure_ (i := 11) (N := some 50) (v := undef) (a' := ?_) #[true, true, true, true, true, true, true, true, true, true, true, true, false, false, false, false, false, false, false, false, false, false] rfl rfl (any_of HT_.out (by kernel_rfl)) (fun _ _ _ h => h) (Or.inr ⟨by rfl, rfl⟩) ?_ ?_
      rotate_left
      ·exact pt_
      refine pure_ (i := 12) (N := some 51) (v := undef) (a' := ?_) #[true, true, true, true, true, true, true, true, true, true, true, true, true, false, false, false, false, false, false, false, false, false] rfl rfl (any_of HT_.out (by kernel_rfl)) (fun _ _ _ h => h) (Or.inr ⟨by rfl, rfl⟩) ?_ ?_
      rotate_left
      ·exact pt_
      refine pure_ (i := 13) (N := some 52) (v := ?_) (a' := ?_) #[true, true, true, true, true, true, true, true, true, true, true, true, true, true, false, false, false, false, false, false, false, false] rfl rfl (any_of HT_.out (by kernel_rfl)) (fun _ _ _ h => h) (Or.inl ⟨by rfl, ?_⟩) ?_ ?_
      rotate_left
      ·intro w'
       go_simp
       with_reducible rfl
      rotate_left
      ·exact pt_
      refine pure_ (i := 14) (N := some 53) (v := ?_) (a' := ?_) #[true, true, true, true, true, true, true, true, true, true, true, true, true, true, true, false, false, false, false, false, false, false] rfl rfl (any_of HT_.out (by kernel_rfl)) (fun _ _ _ h => h) (Or.inl ⟨by rfl, ?_⟩) ?_ ?_
      rotate_left
      ·intro w'
       go_simp
       with_reducible rfl
      rotate_left
      ·exact pt_
      refine pure_ (i := 15) (N := some 54) (v := undef) (a' := ?_) #[true, true, true, true, true, true, true, true, true, true, true, true, true, true, true, true, false, false, false, false, false, false] rfl rfl (any_of HT_.out (by kernel_rfl)) (fun _ _ _ h => h) (Or.inr ⟨by rfl, rfl⟩) ?_ ?_
      rotate_left
      ·exact pt_
      refine pure_ (i := 16) (N := some 55) (v := undef) (a' := ?_) #[true, true, true, true, true, true, true, true, true, true, true, true, true, true, true, true, true, false, false, false, false, false] rfl rfl (any_of HT_.out (by kernel_rfl)) (fun _ _ _ h => h) (Or.inr ⟨by rfl, rfl⟩) ?_ ?_
      rotate_left
      ·exact pt_
      refine pure_ (i := 17) (N := some 56) (v := undef) (a' := ?_) #[true, true, true, true, true, true, true, true, true, true, true, true, true, true, true, true, true, true, false, false, false, false] rfl rfl (any_of HT_.out (by kernel_rfl)) (fun _ _ _ h => h) (Or.inr ⟨by rfl, rfl⟩) ?_ ?_
      rotate_left
      ·exact pt_
      refine pure_ (i := 18) (N := some 57) (v := undef) (a' := ?_) #[true, true, true, true, true, true, true, true, true, true, true, true, true, true, true, true, true, true, true, false, false, false] rfl rfl (any_of HT_.out (by kernel_rfl)) (fun _ _ _ h => h) (Or.inr ⟨by rfl, rfl⟩) ?_ ?_
      rotate_left
      ·exact pt_
      refine pure_ (i := 19) (N := some 58) (v := ?_) (a' := ?_) #[true, true, true, true, true, true, true, true, true, true, true, true, true, true, true, true, true, true, true, true, false, false] rfl rfl (any_of HT_.out (by kernel_rfl)) (fun _ _ _ h => h) (Or.inl ⟨by rfl, ?_⟩) ?_ ?_
      rotate_left
      ·intro w'
       go_simp
       with_reducible rfl
      rotate_left
      ·exact pt_
      refine pure_ (i := 20) (N := some 59) (v := ?_) (a' := ?_) #[true, true, true, true, true, true, true, true, true, true, true, true, true, true, true, true, true, true, true, true, true, false] rfl rfl (any_of HT_.out (by kernel_rfl)) (fun _ _ _ h => h) (Or.inl ⟨by rfl, ?_⟩) ?_ ?_
      rotate_left
      ·intro w'
       go_simp
       with_reducible rfl
      rotate_left
      ·exact pt_
      refine pure_ (i := 21) (N := some 6) (v := ?_) (a' := ?_) #[true, true, true, true, true, true, true, true, true, true, true, true, true, true, true, true, true, true, true, true, true, true] rfl rfl (any_of HT_.out (by kernel_rfl)) (fun _ _ _ h => h) (Or.inl ⟨by rfl, ?_⟩) ?_ ?_
      rotate_left
      ·intro w'
       go_simp
       with_reducible rfl
      rotate_left
      ·exact pt_
      refine done_ (done_of HT_.out (by kernel_rfl)) ?_
      try go_wp2
      go_ret
      exact ⟨rf_, bw_ HB.out⟩

end Go.Proofs.YthlhogcnfaiphaaDoor.PA
