-- Laid by this work's own program; Lean checks it.
import Derived.Test.YthlhogcnfaiphaaDoorPAx0
import Derived.Test.YthlhogcnfaiphaaDoorPAx2
import Derived.Test.YthlhogcnfaiphaaDoorPAx5
import Derived.Test.YthlhogcnfaiphaaDoorPAx6
import Derived.Test.YthlhogcnfaiphaaDoorPAx7
import Derived.Test.YthlhogcnfaiphaaDoorPAx8
import Derived.Test.YthlhogcnfaiphaaDoorPAx12
import Derived.Test.YthlhogcnfaiphaaDoorPAx13
import Derived.Test.YthlhogcnfaiphaaDoorPAx14
import Derived.Test.YthlhogcnfaiphaaDoorPAx15
namespace Go.Proofs.YthlhogcnfaiphaaDoor.PA
open Go.RowKit Go.Proofs.YthlhogcnfaiphaaDoorW.PrintWords Go.Proofs.YthlhogcnfaiphaaDoorW.PrintLast Go.Proofs.YthlhogcnfaiphaaDoorW.PrintMore
attribute [local go_sem] max2_int min2_int max_two min_two max_three min_three max_four min_four   -- for this text's walks alone
set_option linter.unusedVariables false
set_option linter.unusedSimpArgs false

attribute [local go_sem ↓ high] isSome_set_
/-! ### peloruslaw06_ArithHolds: function 3 -/
theorem peloruslaw06_ArithHolds.tab10 : rtab .any (opsOf Tryd.f3 10) = peloruslaw06_ArithHolds.T10 := by kernel_rfl
theorem peloruslaw06_ArithHolds.bits10 : waitsOk peloruslaw06_ArithHolds.T10.2 peloruslaw06_ArithHolds.B10 = true := by kernel_rfl
def peloruslaw06_ArithHolds.T11 : Bool × List (List Nat × List Nat) := (true, [([], []), ([], []), ([], []), ([1, 2], [1, 2]), ([], []), ([], []), ([4, 5, 3], [4, 5]), ([0, 3, 6, 6], [0, 3, 6]), ([7, 7, 0, 1, 2, 3, 4, 5, 6, 7], [7])])
def peloruslaw06_ArithHolds.B11 : List Nat := [0, 0, 0, 6, 0, 0, 62, 127, 255]
theorem peloruslaw06_ArithHolds.tab11 : rtab .any (opsOf Tryd.f3 11) = peloruslaw06_ArithHolds.T11 := by kernel_rfl
theorem peloruslaw06_ArithHolds.bits11 : waitsOk peloruslaw06_ArithHolds.T11.2 peloruslaw06_ArithHolds.B11 = true := by kernel_rfl
set_option maxHeartbeats 8000000 in
set_option maxRecDepth 100000 in
theorem peloruslaw06_ArithHolds.calls (k : Nat) (a0_0 : Int) (a0_1 : Bool) (a0_2 : Int) (a0_3 : Int) (a1_0 : Int) (a1_1 : Bool) (a1_2 : Int) (a1_3 : Int) (r : Bool) (w : World) (hr_ : r = true) (haw_ : ∀ r, peloruslaw06_awake.f k = some r → r = true) (h : peloruslaw06_ArithHolds.f k a0_0 a0_1 a0_2 a0_3 a1_0 a1_1 a1_2 a1_3 = some r) (htab_ : Kd.C (Kd.int .u8) w (some ⟨0, 0, none⟩) 32 tz32tab) :
  Calls Tryd.prog 3 #[.agg #[.int .i64 a0_0, .bool a0_1, .int .u64 a0_2, .int .i64 a0_3], .agg #[.int .i64 a1_0, .bool a1_1, .int .u64 a1_2, .int .i64 a1_3]] w fun e w' => e = .returned (.bool r) ∧ Below w.heap.size w w' := by
 have HTAB := Aside0.mk htab_
 clear htab_
 have HRT_ := Aside0.mk hr_
 clear hr_
 have HAW_ := Aside0.mk haw_
 clear haw_
 have hu24 := Tryd.underlying24
 have hu31 := Tryd.underlying31
 have HB := Aside0.mk (Below.refl w.heap.size w)
 have H : ((peloruslaw06_awake.f k).bind fun t685 => ((peloruslaw06_Few.f a0_0 a0_1 a0_2 a0_3).bind fun t686 => ((peloruslaw06_Few.f a1_0 a1_1 a1_2 a1_3).bind fun t687 => ((num_Exact.f k a0_0 a0_1 a0_2 a0_3).bind fun bt688 => ((num_Exact.f k a1_0 a1_1 a1_2 a1_3).bind fun bt695 => (if t685 = true then (if t686 = true then (if t687 = true then (if bt688.2.2.2 = true then (peloruslaw06_ArithHolds.j0 k t685 (!bt695.2.2.2) a0_0 a0_1 a0_2 a0_3 a1_0 a1_1 a1_2 a1_3 bt688.1 bt688.2.1 bt688.2.2.1 bt695.1 bt695.2.1 bt695.2.2.1) else (peloruslaw06_ArithHolds.j0 k t685 true a0_0 a0_1 a0_2 a0_3 a1_0 a1_1 a1_2 a1_3 bt688.1 bt688.2.1 bt688.2.2.1 bt695.1 bt695.2.1 bt695.2.2.1)) else (peloruslaw06_ArithHolds.j0 k t685 true a0_0 a0_1 a0_2 a0_3 a1_0 a1_1 a1_2 a1_3 bt688.1 bt688.2.1 bt688.2.2.1 bt695.1 bt695.2.1 bt695.2.2.1)) else (peloruslaw06_ArithHolds.j0 k t685 true a0_0 a0_1 a0_2 a0_3 a1_0 a1_1 a1_2 a1_3 bt688.1 bt688.2.1 bt688.2.2.1 bt695.1 bt695.2.1 bt695.2.2.1)) else (peloruslaw06_ArithHolds.j0 k t685 true a0_0 a0_1 a0_2 a0_3 a1_0 a1_1 a1_2 a1_3 bt688.1 bt688.2.1 bt688.2.2.1 bt695.1 bt695.2.1 bt695.2.2.1))))))) = some r := h
 clear h
 replace H := Option.bind_eq_some_iff.mp H
 obtain ⟨t685, A30, H⟩ := H
 (try dsimp only at H)
 have A3 := Aside0.mk A30
 clear A30
 replace H := Option.bind_eq_some_iff.mp H
 obtain ⟨t686, A40, H⟩ := H
 (try dsimp only at H)
 have A4 := Aside0.mk A40
 clear A40
 replace H := Option.bind_eq_some_iff.mp H
 obtain ⟨t687, A50, H⟩ := H
 (try dsimp only at H)
 have A5 := Aside0.mk A50
 clear A50
 replace H := Option.bind_eq_some_iff.mp H
 obtain ⟨⟨t688, t689, t692, t693⟩, A60, H⟩ := H
 (try dsimp only at H)
 have A6 := Aside0.mk A60
 clear A60
 replace H := Option.bind_eq_some_iff.mp H
 obtain ⟨⟨t695, t696, t699, t700⟩, A70, H⟩ := H
 (try dsimp only at H)
 have A7 := Aside0.mk A70
 clear A70
 have HC8 := Aside0.mk H
 clear H
 go_enter Tryd.func3, Tryd.ntmps3
 go_upto_region 6 with (first | ((with_reducible refine gate_dst (N := 2) rfl ?_); refine bx_ 2 #[.int .i64 a0_0, .bool a0_1, .int .u64 a0_2, .int .i64 a0_3] 24 ?_; intro gb683 hg w9 hbox hb; have BK683 := Aside0.mk (hbox); have GW683 := ge_ hg HB; have GE683 := ge_ hg HB; replace HB := bq_ HB hb; clear hb hbox hg) | ((with_reducible refine gate_dst (N := 3) rfl ?_); refine bx_ 3 #[.int .i64 a1_0, .bool a1_1, .int .u64 a1_2, .int .i64 a1_3] 24 ?_; intro gb684 hg w10 hbox hb; have BK684 := Aside0.mk (hbox); have GW684 := ge_ hg HB; have GE684 := ge_ hg HB; have NB683_684 := nb_ hg BK683; have NB684_683 := nc_ hg BK683; replace BK683 := kq_ BK683 hb; replace HB := bq_ HB hb; clear hb hbox hg) | ((with_reducible refine gate_callee (f := 4) rfl ?_); refine gl_ (some 16) Tryd.func4 #[] ?_; (with_reducible refine (peloruslaw06_awake.calls k  t685 _ (HAW_.out _ A3.out) A3.out).mono ?_); rintro e w11 ⟨rfl, hb⟩; refine ⟨_, rfl, ?_⟩; replace BK683 := kq_ BK683 hb; replace BK684 := kq_ BK684 hb; replace HB := bq_ HB hb; (try clear hb); (try clear hb2); (try clear hk); (try clear hi); have hnb12 := NB683_684.out; have hnc12 := NB684_683.out; obtain ⟨hcz13_0, hcz13_1, hcz13_2, hcz13_3, hfz13_0, hfz13_1, hfz13_2, hfz13_3⟩ := c4_ BK683) | ((with_reducible refine gate_callee (f := 5) rfl ?_); refine gl_ (some 18) Tryd.func5 #[.agg #[.int .i64 a0_0, .bool a0_1, .int .u64 a0_2, .int .i64 a0_3]] ?_; (with_reducible refine (peloruslaw06_Few.calls a0_0 a0_1 a0_2 a0_3 t686 _ A4.out).mono ?_); rintro e w14 ⟨rfl, hb⟩; refine ⟨_, rfl, ?_⟩; replace BK683 := kq_ BK683 hb; replace BK684 := kq_ BK684 hb; replace HB := bq_ HB hb; (try clear hb); (try clear hb2); (try clear hk); (try clear hi); obtain ⟨hcz15_0, hcz15_1, hcz15_2, hcz15_3, hfz15_0, hfz15_1, hfz15_2, hfz15_3⟩ := c4_ BK684) | ((with_reducible refine gate_callee (f := 5) rfl ?_); refine gl_ (some 20) Tryd.func5 #[.agg #[.int .i64 a1_0, .bool a1_1, .int .u64 a1_2, .int .i64 a1_3]] ?_; (with_reducible refine (peloruslaw06_Few.calls a1_0 a1_1 a1_2 a1_3 t687 _ A5.out).mono ?_); rintro e w16 ⟨rfl, hb⟩; refine ⟨_, rfl, ?_⟩; replace BK683 := kq_ BK683 hb; replace BK684 := kq_ BK684 hb; replace HB := bq_ HB hb; (try clear hb); (try clear hb2); (try clear hk); (try clear hi); obtain ⟨hcz17_0, hcz17_1, hcz17_2, hcz17_3, hfz17_0, hfz17_1, hfz17_2, hfz17_3⟩ := c4_ BK683) | ((with_reducible refine gate_callee (f := 6) rfl ?_); refine gl_ (some 23) Tryd.func6 #[.agg #[.int .i64 a0_0, .bool a0_1, .int .u64 a0_2, .int .i64 a0_3]] ?_; (with_reducible refine (num_Exact.calls k a0_0 a0_1 a0_2 a0_3 t688 t689 t692 t693 _ A6.out ?sidet).mono ?_); (case sidet => exact Kd.C_below HTAB.out (bw_ HB.out)); rintro e w18 ⟨v690, rfl, ho0, hb⟩; refine ⟨_, rfl, ?_⟩; have HO691 := Aside0.mk (Kd.R_lower ho0 (below_size (bw_ HB.out))); replace BK683 := kq_ BK683 hb; replace BK684 := kq_ BK684 hb; replace HB := bq_ HB hb; (try clear hb); (try clear hb2); (try clear hk); (try clear hi); (try clear ho0)) | ((with_reducible refine gate_dst (N := 8) rfl ?_); refine bx_ 8 #[.bool false, .slice none 0 0, .int .i64 0] 31 ?_; intro gb694 hg w19 hbox hb; have BK694 := Aside0.mk (hbox); have GW694 := ge_ hg HB; have GE694 := ge_ hg HB; have NB683_694 := nb_ hg BK683; have NB694_683 := nc_ hg BK683; have NB684_694 := nb_ hg BK684; have NB694_684 := nc_ hg BK684; replace HO691 := Aside0.mk (Kd.R_below (kr_ HO691.out) hb); replace BK683 := kq_ BK683 hb; replace BK684 := kq_ BK684 hb; replace HB := bq_ HB hb; clear hb hbox hg; have hnb20 := NB694_683.out; have hnc20 := NB683_694.out; have hnb21 := NB694_684.out; have hnc21 := NB684_694.out; obtain ⟨hcz22_0, hcz22_1, hcz22_2, hfz22_0, hfz22_1, hfz22_2⟩ := c3_ BK694; obtain ⟨Ao23, co23, eo23⟩ := Kd.R_slice HO691.out; subst eo23; obtain ⟨hcz24_0, hcz24_1, hcz24_2, hcz24_3, hfz24_0, hfz24_1, hfz24_2, hfz24_3⟩ := c4_ BK684) | ((with_reducible refine gate_callee (f := 6) rfl ?_); refine gl_ (some 28) Tryd.func6 #[.agg #[.int .i64 a1_0, .bool a1_1, .int .u64 a1_2, .int .i64 a1_3]] ?_; (with_reducible refine (num_Exact.calls k a1_0 a1_1 a1_2 a1_3 t695 t696 t699 t700 _ A7.out ?sidet).mono ?_); (case sidet => exact Kd.C_below HTAB.out (bw_ HB.out)); rintro e w25 ⟨v697, rfl, ho0, hb⟩; refine ⟨_, rfl, ?_⟩; have n0_ := Aside0.mk (Kd.R_elder' (kr_ ((Kd.R_mono (Kd.R_far (p := ⟨gb694, 2, none⟩) (Kd.R_far (p := ⟨gb694, 1, none⟩) (Kd.R_far (p := ⟨gb694, 0, none⟩) (Kd.R_types HO691.out BK694.out (by decide)) (fun _ hk => hk.2) (.bool t688)) (fun _ hk => hk.2) (.slice Ao23 t689.length co23)) (fun _ hk => hk.2) (.int .i64 t692)) (fun _ h_ => h_.1)))) (Kd.R_base ho0) hb); have n1_ := Aside0.mk (Kd.R_lower (Kd.R_new' ho0 (Kd.R_lt (kr_ ((Kd.R_mono (Kd.R_far (p := ⟨gb694, 2, none⟩) (Kd.R_far (p := ⟨gb694, 1, none⟩) (Kd.R_far (p := ⟨gb694, 0, none⟩) (Kd.R_types HO691.out BK694.out (by decide)) (fun _ hk => hk.2) (.bool t688)) (fun _ hk => hk.2) (.slice Ao23 t689.length co23)) (fun _ hk => hk.2) (.int .i64 t692)) (fun _ h_ => h_.1)))))) (below_size (bw_ HB.out))); have n2_ := Aside0.mk (blk_below (g := gb683) (o := .cells #[.int .i64 a0_0, .bool a0_1, .int .u64 a0_2, .int .i64 a0_3] 24 (0, 0)) (by refine kb_ ?_; refine bf_ NB683_694 ?_; refine bf_ NB683_694 ?_; refine bf_ NB683_694 ?_; exact BK683.out) hb); have n3_ := Aside0.mk (blk_below (g := gb684) (o := .cells #[.int .i64 a1_0, .bool a1_1, .int .u64 a1_2, .int .i64 a1_3] 24 (0, 0)) (by refine kb_ ?_; refine bf_ NB684_694 ?_; refine bf_ NB684_694 ?_; refine bf_ NB684_694 ?_; exact BK684.out) hb); have n4_ := Aside0.mk (blk_below (g := gb694) (o := .cells #[.bool t688, .slice Ao23 t689.length co23, .int .i64 t692] 31 (0, 0)) (by refine kb_ ?_; refine bp_ #[.bool t688, .slice Ao23 t689.length co23, .int .i64 0] 2 ?_; refine bp_ #[.bool t688, .slice none 0 0, .int .i64 0] 1 ?_; refine bp_ #[.bool false, .slice none 0 0, .int .i64 0] 0 ?_; exact BK694.out) hb); have n5_ := bq_ HB hb; clear HO691; clear BK683; clear BK684; clear BK694; clear HB; have HO691 := n0_; have HO698 := n1_; have BK683 := n2_; have BK684 := n3_; have BK694 := n4_; have HB := n5_; clear n0_ n1_ n2_ n3_ n4_ n5_; (try clear hb); (try clear hb2); (try clear hk); (try clear hi); (try clear ho0)) | ((with_reducible refine gate_dst (N := 10) rfl ?_); refine bx_ 10 #[.bool false, .slice none 0 0, .int .i64 0] 31 ?_; intro gb701 hg w26 hbox hb; have BK701 := Aside0.mk (hbox); have GW701 := ge_ hg HB; have GE701 := ge_ hg HB; have NB683_701 := nb_ hg BK683; have NB701_683 := nc_ hg BK683; have NB684_701 := nb_ hg BK684; have NB701_684 := nc_ hg BK684; have NB694_701 := nb_ hg BK694; have NB701_694 := nc_ hg BK694; replace HO691 := Aside0.mk (Kd.R_below (kr_ HO691.out) hb); replace HO698 := Aside0.mk (Kd.R_below (kr_ HO698.out) hb); replace BK683 := kq_ BK683 hb; replace BK684 := kq_ BK684 hb; replace BK694 := kq_ BK694 hb; replace HB := bq_ HB hb; clear hb hbox hg; have hnb27 := NB701_683.out; have hnc27 := NB683_701.out; have hnb28 := NB701_684.out; have hnc28 := NB684_701.out; have hnb29 := NB701_694.out; have hnc29 := NB694_701.out; obtain ⟨hcz30_0, hcz30_1, hcz30_2, hfz30_0, hfz30_1, hfz30_2⟩ := c3_ BK701; obtain ⟨Ao31, co31, eo31⟩ := Kd.R_slice HO698.out; subst eo31))
 (try simp only [Act.put, List.setIfInBounds_toArray, List.set_cons_zero, List.set_cons_succ])
 go_cut [48] (fun v48 wc => ∃ (kq : Nat) (x48_7 : Bool), v48 = .bool x48_7 ∧ Aside0 (peloruslaw06_ArithHolds.j0 kq t685 x48_7 a0_0 a0_1 a0_2 a0_3 a1_0 a1_1 a1_2 a1_3 t688 t689 t692 t695 t696 t699 = some r) ∧ Aside0 (kq ≤ k) ∧ Aside0 (Kd.R (Kd.int .u32) 44 wc w.heap.size (fun k_ => some k_ ≠ ((.slice Ao31 t696.length co31) : Value).ownBlock) (.slice Ao23 t689.length co23) t689) ∧ Aside0 (Kd.R (Kd.int .u32) 44 wc w.heap.size (fun k_ => some k_ ≠ ((.slice Ao23 t689.length co23) : Value).ownBlock) (.slice Ao31 t696.length co31) t696) ∧ Aside0 (wc.heap[gb683]? = some (.cells #[.int .i64 a0_0, .bool a0_1, .int .u64 a0_2, .int .i64 a0_3] 24 (0, 0))) ∧ Aside0 (wc.heap[gb684]? = some (.cells #[.int .i64 a1_0, .bool a1_1, .int .u64 a1_2, .int .i64 a1_3] 24 (0, 0))) ∧ Aside0 (wc.heap[gb694]? = some (.cells #[.bool t688, (.slice Ao23 t689.length co23), .int .i64 t692] 31 (0, 0))) ∧ Aside0 (wc.heap[gb701]? = some (.cells #[.bool t695, (.slice Ao31 t696.length co31), .int .i64 t699] 31 (0, 0))) ∧ Aside0 (Below w.heap.size w wc))
 case first =>
  have H := HC8.out
  clear HC8
  by_cases c32 : t685 = true
  ·subst c32
   have H1 : (if t686 = true then (if t687 = true then (if t693 = true then (peloruslaw06_ArithHolds.j0 k true (!t700) a0_0 a0_1 a0_2 a0_3 a1_0 a1_1 a1_2 a1_3 t688 t689 t692 t695 t696 t699) else (peloruslaw06_ArithHolds.j0 k true true a0_0 a0_1 a0_2 a0_3 a1_0 a1_1 a1_2 a1_3 t688 t689 t692 t695 t696 t699)) else (peloruslaw06_ArithHolds.j0 k true true a0_0 a0_1 a0_2 a0_3 a1_0 a1_1 a1_2 a1_3 t688 t689 t692 t695 t696 t699)) else (peloruslaw06_ArithHolds.j0 k true true a0_0 a0_1 a0_2 a0_3 a1_0 a1_1 a1_2 a1_3 t688 t689 t692 t695 t696 t699)) = some r := by rw [if_pos rfl] at H; exact H
   clear H
   have H := H1
   clear H1
   by_cases c33 : t686 = true
   ·subst c33
    have H1 : (if t687 = true then (if t693 = true then (peloruslaw06_ArithHolds.j0 k true (!t700) a0_0 a0_1 a0_2 a0_3 a1_0 a1_1 a1_2 a1_3 t688 t689 t692 t695 t696 t699) else (peloruslaw06_ArithHolds.j0 k true true a0_0 a0_1 a0_2 a0_3 a1_0 a1_1 a1_2 a1_3 t688 t689 t692 t695 t696 t699)) else (peloruslaw06_ArithHolds.j0 k true true a0_0 a0_1 a0_2 a0_3 a1_0 a1_1 a1_2 a1_3 t688 t689 t692 t695 t696 t699)) = some r := by rw [if_pos rfl] at H; exact H
    clear H
    have H := H1
    clear H1
    by_cases c34 : t687 = true
    ·subst c34
     have H1 : (if t693 = true then (peloruslaw06_ArithHolds.j0 k true (!t700) a0_0 a0_1 a0_2 a0_3 a1_0 a1_1 a1_2 a1_3 t688 t689 t692 t695 t696 t699) else (peloruslaw06_ArithHolds.j0 k true true a0_0 a0_1 a0_2 a0_3 a1_0 a1_1 a1_2 a1_3 t688 t689 t692 t695 t696 t699)) = some r := by rw [if_pos rfl] at H; exact H
     clear H
     have H := H1
     clear H1
     by_cases c35 : t693 = true
     ·subst c35
      have H1 : (peloruslaw06_ArithHolds.j0 k true (!t700) a0_0 a0_1 a0_2 a0_3 a1_0 a1_1 a1_2 a1_3 t688 t689 t692 t695 t696 t699) = some r := by rw [if_pos rfl] at H; exact H
      clear H
      have H := H1
      clear H1
      have H' := Aside0.mk H
      clear H
      go_wp2
      go_meet
      case rel => exact ⟨_, (!t700), (by first | rfl | (simp; done) | (simp [*]; done)), H', ⟨by first | omega | exact Nat.le_refl _⟩, ⟨by (with_reducible repeat (first | apply Kd.R_alloc | apply Kd.R_drewN | apply Kd.R_drew)); exact Kd.R_mono (Kd.R_far (p := ⟨gb701, 2, none⟩) (Kd.R_far (p := ⟨gb701, 1, none⟩) (Kd.R_far (p := ⟨gb701, 0, none⟩) (Kd.R_types HO691.out BK701.out (by decide)) (fun _ hk => hk.2) (.bool t695)) (fun _ hk => hk.2) (.slice Ao31 t696.length co31)) (fun _ hk => hk.2) (.int .i64 t699)) (fun _ hk => hk.1.2)⟩, ⟨by (with_reducible repeat (first | apply Kd.R_alloc | apply Kd.R_drewN | apply Kd.R_drew)); exact Kd.R_mono (Kd.R_far (p := ⟨gb701, 2, none⟩) (Kd.R_far (p := ⟨gb701, 1, none⟩) (Kd.R_far (p := ⟨gb701, 0, none⟩) (Kd.R_types HO698.out BK701.out (by decide)) (fun _ hk => hk.2) (.bool t695)) (fun _ hk => hk.2) (.slice Ao31 t696.length co31)) (fun _ hk => hk.2) (.int .i64 t699)) (fun _ hk => hk.1.2)⟩, ⟨by refine kb_ ?_; refine bf_ NB683_701 ?_; refine bf_ NB683_701 ?_; refine bf_ NB683_701 ?_; exact BK683.out⟩, ⟨by refine kb_ ?_; refine bf_ NB684_701 ?_; refine bf_ NB684_701 ?_; refine bf_ NB684_701 ?_; exact BK684.out⟩, ⟨by refine kb_ ?_; refine bf_ NB694_701 ?_; refine bf_ NB694_701 ?_; refine bf_ NB694_701 ?_; exact BK694.out⟩, ⟨by refine kb_ ?_; refine bp_ #[.bool t695, .slice Ao31 t696.length co31, .int .i64 0] 2 ?_; refine bp_ #[.bool t695, .slice none 0 0, .int .i64 0] 1 ?_; refine bp_ #[.bool false, .slice none 0 0, .int .i64 0] 0 ?_; exact BK701.out⟩, ⟨bw_ HB.out⟩⟩
     ·replace c35 := Bool.eq_false_iff.mpr c35
      subst c35
      have H1 : (peloruslaw06_ArithHolds.j0 k true true a0_0 a0_1 a0_2 a0_3 a1_0 a1_1 a1_2 a1_3 t688 t689 t692 t695 t696 t699) = some r := by rw [if_neg (show ¬ (false = true) by decide)] at H; exact H
      clear H
      have H := H1
      clear H1
      have H' := Aside0.mk H
      clear H
      go_wp2
      go_meet
      case rel => exact ⟨_, (true), (by first | rfl | (simp; done) | (simp [*]; done)), H', ⟨by first | omega | exact Nat.le_refl _⟩, ⟨by (with_reducible repeat (first | apply Kd.R_alloc | apply Kd.R_drewN | apply Kd.R_drew)); exact Kd.R_mono (Kd.R_far (p := ⟨gb701, 2, none⟩) (Kd.R_far (p := ⟨gb701, 1, none⟩) (Kd.R_far (p := ⟨gb701, 0, none⟩) (Kd.R_types HO691.out BK701.out (by decide)) (fun _ hk => hk.2) (.bool t695)) (fun _ hk => hk.2) (.slice Ao31 t696.length co31)) (fun _ hk => hk.2) (.int .i64 t699)) (fun _ hk => hk.1.2)⟩, ⟨by (with_reducible repeat (first | apply Kd.R_alloc | apply Kd.R_drewN | apply Kd.R_drew)); exact Kd.R_mono (Kd.R_far (p := ⟨gb701, 2, none⟩) (Kd.R_far (p := ⟨gb701, 1, none⟩) (Kd.R_far (p := ⟨gb701, 0, none⟩) (Kd.R_types HO698.out BK701.out (by decide)) (fun _ hk => hk.2) (.bool t695)) (fun _ hk => hk.2) (.slice Ao31 t696.length co31)) (fun _ hk => hk.2) (.int .i64 t699)) (fun _ hk => hk.1.2)⟩, ⟨by refine kb_ ?_; refine bf_ NB683_701 ?_; refine bf_ NB683_701 ?_; refine bf_ NB683_701 ?_; exact BK683.out⟩, ⟨by refine kb_ ?_; refine bf_ NB684_701 ?_; refine bf_ NB684_701 ?_; refine bf_ NB684_701 ?_; exact BK684.out⟩, ⟨by refine kb_ ?_; refine bf_ NB694_701 ?_; refine bf_ NB694_701 ?_; refine bf_ NB694_701 ?_; exact BK694.out⟩, ⟨by refine kb_ ?_; refine bp_ #[.bool t695, .slice Ao31 t696.length co31, .int .i64 0] 2 ?_; refine bp_ #[.bool t695, .slice none 0 0, .int .i64 0] 1 ?_; refine bp_ #[.bool false, .slice none 0 0, .int .i64 0] 0 ?_; exact BK701.out⟩, ⟨bw_ HB.out⟩⟩
    ·replace c34 := Bool.eq_false_iff.mpr c34
     subst c34
     have H1 : (peloruslaw06_ArithHolds.j0 k true true a0_0 a0_1 a0_2 a0_3 a1_0 a1_1 a1_2 a1_3 t688 t689 t692 t695 t696 t699) = some r := by rw [if_neg (show ¬ (false = true) by decide)] at H; exact H
     clear H
     have H := H1
     clear H1
     have H' := Aside0.mk H
     clear H
     go_wp2
     go_meet
     case rel => exact ⟨_, (true), (by first | rfl | (simp; done) | (simp [*]; done)), H', ⟨by first | omega | exact Nat.le_refl _⟩, ⟨by (with_reducible repeat (first | apply Kd.R_alloc | apply Kd.R_drewN | apply Kd.R_drew)); exact Kd.R_mono (Kd.R_far (p := ⟨gb701, 2, none⟩) (Kd.R_far (p := ⟨gb701, 1, none⟩) (Kd.R_far (p := ⟨gb701, 0, none⟩) (Kd.R_types HO691.out BK701.out (by decide)) (fun _ hk => hk.2) (.bool t695)) (fun _ hk => hk.2) (.slice Ao31 t696.length co31)) (fun _ hk => hk.2) (.int .i64 t699)) (fun _ hk => hk.1.2)⟩, ⟨by (with_reducible repeat (first | apply Kd.R_alloc | apply Kd.R_drewN | apply Kd.R_drew)); exact Kd.R_mono (Kd.R_far (p := ⟨gb701, 2, none⟩) (Kd.R_far (p := ⟨gb701, 1, none⟩) (Kd.R_far (p := ⟨gb701, 0, none⟩) (Kd.R_types HO698.out BK701.out (by decide)) (fun _ hk => hk.2) (.bool t695)) (fun _ hk => hk.2) (.slice Ao31 t696.length co31)) (fun _ hk => hk.2) (.int .i64 t699)) (fun _ hk => hk.1.2)⟩, ⟨by refine kb_ ?_; refine bf_ NB683_701 ?_; refine bf_ NB683_701 ?_; refine bf_ NB683_701 ?_; exact BK683.out⟩, ⟨by refine kb_ ?_; refine bf_ NB684_701 ?_; refine bf_ NB684_701 ?_; refine bf_ NB684_701 ?_; exact BK684.out⟩, ⟨by refine kb_ ?_; refine bf_ NB694_701 ?_; refine bf_ NB694_701 ?_; refine bf_ NB694_701 ?_; exact BK694.out⟩, ⟨by refine kb_ ?_; refine bp_ #[.bool t695, .slice Ao31 t696.length co31, .int .i64 0] 2 ?_; refine bp_ #[.bool t695, .slice none 0 0, .int .i64 0] 1 ?_; refine bp_ #[.bool false, .slice none 0 0, .int .i64 0] 0 ?_; exact BK701.out⟩, ⟨bw_ HB.out⟩⟩
   ·replace c33 := Bool.eq_false_iff.mpr c33
    subst c33
    have H1 : (peloruslaw06_ArithHolds.j0 k true true a0_0 a0_1 a0_2 a0_3 a1_0 a1_1 a1_2 a1_3 t688 t689 t692 t695 t696 t699) = some r := by rw [if_neg (show ¬ (false = true) by decide)] at H; exact H
    clear H
    have H := H1
    clear H1
    have H' := Aside0.mk H
    clear H
    go_wp2
    go_meet
    case rel => exact ⟨_, (true), (by first | rfl | (simp; done) | (simp [*]; done)), H', ⟨by first | omega | exact Nat.le_refl _⟩, ⟨by (with_reducible repeat (first | apply Kd.R_alloc | apply Kd.R_drewN | apply Kd.R_drew)); exact Kd.R_mono (Kd.R_far (p := ⟨gb701, 2, none⟩) (Kd.R_far (p := ⟨gb701, 1, none⟩) (Kd.R_far (p := ⟨gb701, 0, none⟩) (Kd.R_types HO691.out BK701.out (by decide)) (fun _ hk => hk.2) (.bool t695)) (fun _ hk => hk.2) (.slice Ao31 t696.length co31)) (fun _ hk => hk.2) (.int .i64 t699)) (fun _ hk => hk.1.2)⟩, ⟨by (with_reducible repeat (first | apply Kd.R_alloc | apply Kd.R_drewN | apply Kd.R_drew)); exact Kd.R_mono (Kd.R_far (p := ⟨gb701, 2, none⟩) (Kd.R_far (p := ⟨gb701, 1, none⟩) (Kd.R_far (p := ⟨gb701, 0, none⟩) (Kd.R_types HO698.out BK701.out (by decide)) (fun _ hk => hk.2) (.bool t695)) (fun _ hk => hk.2) (.slice Ao31 t696.length co31)) (fun _ hk => hk.2) (.int .i64 t699)) (fun _ hk => hk.1.2)⟩, ⟨by refine kb_ ?_; refine bf_ NB683_701 ?_; refine bf_ NB683_701 ?_; refine bf_ NB683_701 ?_; exact BK683.out⟩, ⟨by refine kb_ ?_; refine bf_ NB684_701 ?_; refine bf_ NB684_701 ?_; refine bf_ NB684_701 ?_; exact BK684.out⟩, ⟨by refine kb_ ?_; refine bf_ NB694_701 ?_; refine bf_ NB694_701 ?_; refine bf_ NB694_701 ?_; exact BK694.out⟩, ⟨by refine kb_ ?_; refine bp_ #[.bool t695, .slice Ao31 t696.length co31, .int .i64 0] 2 ?_; refine bp_ #[.bool t695, .slice none 0 0, .int .i64 0] 1 ?_; refine bp_ #[.bool false, .slice none 0 0, .int .i64 0] 0 ?_; exact BK701.out⟩, ⟨bw_ HB.out⟩⟩
  ·replace c32 := Bool.eq_false_iff.mpr c32
   subst c32
   have H1 : (peloruslaw06_ArithHolds.j0 k false true a0_0 a0_1 a0_2 a0_3 a1_0 a1_1 a1_2 a1_3 t688 t689 t692 t695 t696 t699) = some r := by rw [if_neg (show ¬ (false = true) by decide)] at H; exact H
   clear H
   have H := H1
   clear H1
   have H' := Aside0.mk H
   clear H
   go_wp2
   go_meet
   case rel => exact ⟨_, (true), (by first | rfl | (simp; done) | (simp [*]; done)), H', ⟨by first | omega | exact Nat.le_refl _⟩, ⟨by (with_reducible repeat (first | apply Kd.R_alloc | apply Kd.R_drewN | apply Kd.R_drew)); exact Kd.R_mono (Kd.R_far (p := ⟨gb701, 2, none⟩) (Kd.R_far (p := ⟨gb701, 1, none⟩) (Kd.R_far (p := ⟨gb701, 0, none⟩) (Kd.R_types HO691.out BK701.out (by decide)) (fun _ hk => hk.2) (.bool t695)) (fun _ hk => hk.2) (.slice Ao31 t696.length co31)) (fun _ hk => hk.2) (.int .i64 t699)) (fun _ hk => hk.1.2)⟩, ⟨by (with_reducible repeat (first | apply Kd.R_alloc | apply Kd.R_drewN | apply Kd.R_drew)); exact Kd.R_mono (Kd.R_far (p := ⟨gb701, 2, none⟩) (Kd.R_far (p := ⟨gb701, 1, none⟩) (Kd.R_far (p := ⟨gb701, 0, none⟩) (Kd.R_types HO698.out BK701.out (by decide)) (fun _ hk => hk.2) (.bool t695)) (fun _ hk => hk.2) (.slice Ao31 t696.length co31)) (fun _ hk => hk.2) (.int .i64 t699)) (fun _ hk => hk.1.2)⟩, ⟨by refine kb_ ?_; refine bf_ NB683_701 ?_; refine bf_ NB683_701 ?_; refine bf_ NB683_701 ?_; exact BK683.out⟩, ⟨by refine kb_ ?_; refine bf_ NB684_701 ?_; refine bf_ NB684_701 ?_; refine bf_ NB684_701 ?_; exact BK684.out⟩, ⟨by refine kb_ ?_; refine bf_ NB694_701 ?_; refine bf_ NB694_701 ?_; refine bf_ NB694_701 ?_; exact BK694.out⟩, ⟨by refine kb_ ?_; refine bp_ #[.bool t695, .slice Ao31 t696.length co31, .int .i64 0] 2 ?_; refine bp_ #[.bool t695, .slice none 0 0, .int .i64 0] 1 ?_; refine bp_ #[.bool false, .slice none 0 0, .int .i64 0] 0 ?_; exact BK701.out⟩, ⟨bw_ HB.out⟩⟩
 case rest =>
  clear HC8
  try clear c1
  try clear c2
  try clear p2
  try clear c3
  try clear c4
  try clear c5
  try clear c6
  try clear c12
  try clear c20
  try clear c21
  try clear c27
  try clear c28
  try clear c29
  try clear c32
  try clear c33
  try clear c34
  try clear c35
  try clear hcz13_0 hcz13_1 hcz13_2 hcz13_3
  try clear hcz15_0 hcz15_1 hcz15_2 hcz15_3
  try clear hcz17_0 hcz17_1 hcz17_2 hcz17_3
  try clear hcz22_0 hcz22_1 hcz22_2
  try clear hcz24_0 hcz24_1 hcz24_2 hcz24_3
  try clear hcz30_0 hcz30_1 hcz30_2
  try clear hfz13_0 hfz13_1 hfz13_2 hfz13_3
  try clear hfz15_0 hfz15_1 hfz15_2 hfz15_3
  try clear hfz17_0 hfz17_1 hfz17_2 hfz17_3
  try clear hfz22_0 hfz22_1 hfz22_2
  try clear hfz24_0 hfz24_1 hfz24_2 hfz24_3
  try clear hfz30_0 hfz30_1 hfz30_2
  obtain ⟨kq, x48_7, rfl, HA, HJ7, HO_695001, HO_702001, BK683, BK684, BK694, BK701, HB⟩ := hcut
  cases kq with
  | zero => exact absurd HA.out (by simp [peloruslaw06_ArithHolds.j0])
  | succ kj7 =>
   have H := HA.out
   clear HA
   simp only [peloruslaw06_ArithHolds.j0] at H
   by_cases c36 : x48_7 = true
   ·subst c36
    have H1 : (some t685) = some r := by rw [if_pos rfl] at H; exact H
    clear H
    have H := H1
    clear H1
    obtain rfl := Option.some.inj H
    go_wp2
    go_ret
    exact ⟨rf_, bw_ HB.out⟩
   ·replace c36 := Bool.eq_false_iff.mpr c36
    subst c36
    have H1 : ((dy_Add.f kj7 (([(⟨(⟨t688, t689⟩ : S29), t692⟩ : S31), (⟨(⟨t695, t696⟩ : S29), t699⟩ : S31)] : List (S31)))).bind fun bt705 => ((dy_Mul.f kj7 t688 t689 t692 t695 t696 t699).bind fun bt711 => ((arith_Add.f kj7 a0_0 a0_1 a0_2 a0_3 a1_0 a1_1 a1_2 a1_3 false).bind fun bt717 => ((arith_Add.f kj7 a0_0 a0_1 a0_2 a0_3 a1_0 a1_1 a1_2 a1_3 true).bind fun bt721 => ((peloruslaw06_holds.f kj7 bt705.1 bt705.2.1 bt705.2.2 bt717.1 bt717.2.1 bt717.2.2.1 bt717.2.2.2 bt721.1 bt721.2.1 bt721.2.2.1 bt721.2.2.2).bind fun t725 => ((arith_Mul.f kj7 a0_0 a0_1 a0_2 a0_3 a1_0 a1_1 a1_2 a1_3 false).bind fun bt726 => ((arith_Mul.f kj7 a0_0 a0_1 a0_2 a0_3 a1_0 a1_1 a1_2 a1_3 true).bind fun bt730 => ((peloruslaw06_holds.f kj7 bt711.1 bt711.2.1 bt711.2.2 bt726.1 bt726.2.1 bt726.2.2.1 bt726.2.2.2 bt730.1 bt730.2.1 bt730.2.2.1 bt730.2.2.2).bind fun t734 => (if t725 = true then (some t734) else (some false)))))))))) = some r := by rw [if_neg (show ¬ (false = true) by decide)] at H; exact H
    clear H
    have H := H1
    clear H1
    obtain ⟨y702, hy702⟩ : ∃ y_ : List (S31), y_ = (([(⟨(⟨t688, t689⟩ : S29), t692⟩ : S31), (⟨(⟨t695, t696⟩ : S29), t699⟩ : S31)] : List (S31))) := ⟨_, rfl⟩
    replace H : ((dy_Add.f kj7 y702).bind fun bt705 => ((dy_Mul.f kj7 t688 t689 t692 t695 t696 t699).bind fun bt711 => ((arith_Add.f kj7 a0_0 a0_1 a0_2 a0_3 a1_0 a1_1 a1_2 a1_3 false).bind fun bt717 => ((arith_Add.f kj7 a0_0 a0_1 a0_2 a0_3 a1_0 a1_1 a1_2 a1_3 true).bind fun bt721 => ((peloruslaw06_holds.f kj7 bt705.1 bt705.2.1 bt705.2.2 bt717.1 bt717.2.1 bt717.2.2.1 bt717.2.2.2 bt721.1 bt721.2.1 bt721.2.2.1 bt721.2.2.2).bind fun t725 => ((arith_Mul.f kj7 a0_0 a0_1 a0_2 a0_3 a1_0 a1_1 a1_2 a1_3 false).bind fun bt726 => ((arith_Mul.f kj7 a0_0 a0_1 a0_2 a0_3 a1_0 a1_1 a1_2 a1_3 true).bind fun bt730 => ((peloruslaw06_holds.f kj7 bt711.1 bt711.2.1 bt711.2.2 bt726.1 bt726.2.1 bt726.2.2.1 bt726.2.2.2 bt730.1 bt730.2.1 bt730.2.2.1 bt730.2.2.2).bind fun t734 => (if t725 = true then (some t734) else (some false)))))))))) = some r := by first | (rw [hy702]; with_reducible exact H) | (have H2_ := (Option.bind_some _ _).symm.trans H; rw [hy702]; with_reducible exact H2_) | (have H2_ := (Option.bind_some _ _).symm.trans H; with_reducible exact H2_) | with_reducible exact H | (rw [hy702]; exact H) | exact H
    have Ny702 := Aside0.mk hy702
    clear hy702
    replace H := Option.bind_eq_some_iff.mp H
    obtain ⟨⟨t705, t706, t709⟩, A370, H⟩ := H
    (try dsimp only at H)
    have A37 := Aside0.mk A370
    clear A370
    replace H := Option.bind_eq_some_iff.mp H
    obtain ⟨⟨t711, t712, t715⟩, A380, H⟩ := H
    (try dsimp only at H)
    have A38 := Aside0.mk A380
    clear A380
    replace H := Option.bind_eq_some_iff.mp H
    obtain ⟨⟨t717, t718, t719, t720⟩, A390, H⟩ := H
    (try dsimp only at H)
    have A39 := Aside0.mk A390
    clear A390
    replace H := Option.bind_eq_some_iff.mp H
    obtain ⟨⟨t721, t722, t723, t724⟩, A400, H⟩ := H
    (try dsimp only at H)
    have A40 := Aside0.mk A400
    clear A400
    replace H := Option.bind_eq_some_iff.mp H
    obtain ⟨t725, A410, H⟩ := H
    (try dsimp only at H)
    have A41 := Aside0.mk A410
    clear A410
    replace H := Option.bind_eq_some_iff.mp H
    obtain ⟨⟨t726, t727, t728, t729⟩, A420, H⟩ := H
    (try dsimp only at H)
    have A42 := Aside0.mk A420
    clear A420
    replace H := Option.bind_eq_some_iff.mp H
    obtain ⟨⟨t730, t731, t732, t733⟩, A430, H⟩ := H
    (try dsimp only at H)
    have A43 := Aside0.mk A430
    clear A430
    replace H := Option.bind_eq_some_iff.mp H
    obtain ⟨t734, A440, H⟩ := H
    (try dsimp only at H)
    have A44 := Aside0.mk A440
    clear A440
    by_cases c45 : t725 = true
    ·subst c45
     have H1 : (some t734) = some r := by rw [if_pos rfl] at H; exact H
     clear H
     have H := H1
     clear H1
     obtain rfl := Option.some.inj H
     have hnb46 := NB694_683.out
     have hnc46 := NB683_694.out
     have hnb47 := NB694_684.out
     have hnc47 := NB684_694.out
     have hnb48 := NB694_701.out
     have hnc48 := NB701_694.out
     obtain ⟨hcz49_0, hcz49_1, hcz49_2, hfz49_0, hfz49_1, hfz49_2⟩ := c3_ BK694
     have hnb50 := NB701_683.out
     have hnc50 := NB683_701.out
     have hnb51 := NB701_684.out
     have hnc51 := NB684_701.out
     obtain ⟨hcz52_0, hcz52_1, hcz52_2, hfz52_0, hfz52_1, hfz52_2⟩ := c3_ BK701
     have HCHO_695001 := Aside0.mk (Kd.R_reads' HO_695001.out)
     have HCHO_702001 := Aside0.mk (Kd.R_reads' HO_702001.out)
     have HBC := bc_ HB
     try go_wp2_with (first | ((with_reducible refine gate_dst (N := 52) rfl ?_); refine Kd.N_lit k31 _ 31 ?hg (N' := 52) ?hd (xs := ([(⟨(⟨t688, t689⟩ : S29), t692⟩ : S31), (⟨(⟨t695, t696⟩ : S29), t699⟩ : S31)] : List (S31))) (inner := [.bool t688, .slice Ao23 t689.length co23, .int .i64 t692, .bool t695, .slice Ao31 t696.length co31, .int .i64 t699]) (ok := (fun k_ => k_ ≠ gb683 ∧ k_ ≠ gb684 ∧ k_ ≠ gb694 ∧ k_ ≠ gb701)) (okp := (fun k_ => k_ ≠ gb683 ∧ k_ ≠ gb684 ∧ k_ ≠ gb694 ∧ k_ ≠ gb701)) ?hr ?hp (fun _ hk => hk) ((show ∀ k_, wc.heap.size ≤ k_ → (fun k_ => k_ ≠ gb683 ∧ k_ ≠ gb684 ∧ k_ ≠ gb694 ∧ k_ ≠ gb701) k_ from fun k_ hk => ⟨Kd.freshB (g := gb683) (o := .cells #[.int .i64 a0_0, .bool a0_1, .int .u64 a0_2, .int .i64 a0_3] 24 (0, 0)) (kb_ BK683.out) k_ hk, Kd.freshB (g := gb684) (o := .cells #[.int .i64 a1_0, .bool a1_1, .int .u64 a1_2, .int .i64 a1_3] 24 (0, 0)) (kb_ BK684.out) k_ hk, Kd.freshB (g := gb694) (o := .cells #[.bool t688, .slice Ao23 t689.length co23, .int .i64 t692] 31 (0, 0)) (kb_ BK694.out) k_ hk, Kd.freshB (g := gb701) (o := .cells #[.bool t695, .slice Ao31 t696.length co31, .int .i64 t699] 31 (0, 0)) (kb_ BK701.out) k_ hk⟩) _ (Nat.le_refl _)) (Below.refl _ _) (Nat.le_refl _) (by simp) ?_; (case hd => rfl); (case hg => rfl); (case hr => first | (go_simp; done) | (go_simp; rfl)); (case hp => exact (Reps.c3 (show Kd.FK k31 _ _ (⟨(⟨t688, t689⟩ : S29), t692⟩ : S31) [.bool t688, .slice Ao23 t689.length co23, .int .i64 t692] from (k31_mkF _ _ (⟨(⟨t688, t689⟩ : S29), t692⟩ : S31) (Kd.R_reads' (Kd.R_mono (ok' := (fun k_ => k_ ≠ gb683 ∧ k_ ≠ gb684 ∧ k_ ≠ gb694 ∧ k_ ≠ gb701)) (Kd.R_types (Kd.R_types (Kd.R_types (Kd.R_types (HO_695001.out) BK683.out (by decide)) BK684.out (by decide)) BK694.out (by decide)) BK701.out (by decide)) (fun k_ hk => ⟨hk.1.1.1.2, ⟨hk.1.1.2, ⟨hk.1.2, hk.2⟩⟩⟩))).2.1 (Kd.R_F (Kd.R_mono (ok' := (fun k_ => k_ ≠ gb683 ∧ k_ ≠ gb684 ∧ k_ ≠ gb694 ∧ k_ ≠ gb701)) (Kd.R_types (Kd.R_types (Kd.R_types (Kd.R_types (HO_695001.out) BK683.out (by decide)) BK684.out (by decide)) BK694.out (by decide)) BK701.out (by decide)) (fun k_ hk => ⟨hk.1.1.1.2, ⟨hk.1.1.2, ⟨hk.1.2, hk.2⟩⟩⟩))))) (Reps.c3 (show Kd.FK k31 _ _ (⟨(⟨t695, t696⟩ : S29), t699⟩ : S31) [.bool t695, .slice Ao31 t696.length co31, .int .i64 t699] from (k31_mkF _ _ (⟨(⟨t695, t696⟩ : S29), t699⟩ : S31) (Kd.R_reads' (Kd.R_mono (ok' := (fun k_ => k_ ≠ gb683 ∧ k_ ≠ gb684 ∧ k_ ≠ gb694 ∧ k_ ≠ gb701)) (Kd.R_types (Kd.R_types (Kd.R_types (Kd.R_types (HO_702001.out) BK683.out (by decide)) BK684.out (by decide)) BK694.out (by decide)) BK701.out (by decide)) (fun k_ hk => ⟨hk.1.1.1.2, ⟨hk.1.1.2, ⟨hk.1.2, hk.2⟩⟩⟩))).2.1 (Kd.R_F (Kd.R_mono (ok' := (fun k_ => k_ ≠ gb683 ∧ k_ ≠ gb684 ∧ k_ ≠ gb694 ∧ k_ ≠ gb701)) (Kd.R_types (Kd.R_types (Kd.R_types (Kd.R_types (HO_702001.out) BK683.out (by decide)) BK684.out (by decide)) BK694.out (by decide)) BK701.out (by decide)) (fun k_ hk => ⟨hk.1.1.1.2, ⟨hk.1.1.2, ⟨hk.1.2, hk.2⟩⟩⟩))))) (Reps.none _ _)))); intro v703 w53 ho54 hb hg_ hnew_; clear hg_ hnew_; (first | rw [← Ny702.out] at ho54 | (simp only [Int.reduceToNat] at ho54; rw [← Ny702.out] at ho54)); have HO704 := Aside0.mk (Kd.N_lower ho54 (below_size (bw_ HB.out))); replace BK683 := kq_ BK683 hb; replace BK684 := kq_ BK684 hb; replace BK694 := kq_ BK694 hb; replace BK701 := kq_ BK701 hb; replace HBC := bq_ HBC hb; replace HB := bq_ HB hb; clear HO_695001 HO_702001; clear hb ho54; obtain ⟨Ao55, co55, eo55⟩ := Kd.N_slice HO704.out; subst eo55) | ((with_reducible refine gate_callee (f := 7) rfl ?_); refine gl_ (some 53) Tryd.func7 #[.slice Ao55 y702.length co55] ?_; (with_reducible refine (dy_Add.calls kj7 _ _ y702 t705 t706 t709 _ ?side1 ?side2 A37.out ?sidet).mono ?_); (case sidet => exact Kd.C_below HTAB.out (bw_ HB.out)); (case side1 => exact kc_ (Kd.N_reads' HO704.out).2.2); (case side2 => exact (Kd.N_reads' HO704.out).2.1); rintro e w56 ⟨v707, rfl, ho0, hb⟩; refine ⟨_, rfl, ?_⟩; have n0_ := Aside0.mk (Kd.N_elder' (by (with_reducible repeat (first | apply Kd.N_alloc | apply Kd.N_drewN | apply Kd.N_drew)); exact HO704.out) (Kd.R_base ho0) hb); have n1_ := Aside0.mk (Kd.R_lower ho0 (below_size (bw_ HB.out))); have n2_ := kq_ BK683 hb; have n3_ := kq_ BK684 hb; have n4_ := kq_ BK694 hb; have n5_ := kq_ BK701 hb; replace HBC := bq_ HBC hb; have n6_ := bq_ HB hb; clear HO704; clear BK683; clear BK684; clear BK694; clear BK701; clear HB; have HO704 := n0_; have HO708 := n1_; have BK683 := n2_; have BK684 := n3_; have BK694 := n4_; have BK701 := n5_; have HB := n6_; clear n0_ n1_ n2_ n3_ n4_ n5_ n6_; (try clear hb); (try clear hb2); (try clear hk); (try clear hi); (try clear ho0)) | ((with_reducible refine gate_dst (N := 12) rfl ?_); refine bx_ 12 #[.bool false, .slice none 0 0, .int .i64 0] 31 ?_; intro gb710 hg w57 hbox hb; have n0_ := Aside0.mk (Kd.N_below (Kd.N_elderB (by (with_reducible repeat (first | apply Kd.N_alloc | apply Kd.N_drewN | apply Kd.N_drew)); exact HO704.out) gb710 (Nat.le_of_eq hg.symm)) hb); have n1_ := Aside0.mk (Kd.R_below (kr_ HO708.out) hb); have n2_ := kq_ BK683 hb; have n3_ := kq_ BK684 hb; have n4_ := kq_ BK694 hb; have n5_ := kq_ BK701 hb; have GC710 := ge_ hg HBC; replace HBC := bq_ HBC hb; have n6_ := bq_ HB hb; have n7_ := Aside0.mk (hbox); have n8_ := ge_ hg HB; have n9_ := ge_ hg HB; have n10_ := nb_ hg BK683; have n11_ := nc_ hg BK683; have n12_ := nb_ hg BK684; have n13_ := nc_ hg BK684; have n14_ := nb_ hg BK694; have n15_ := nc_ hg BK694; have n16_ := nb_ hg BK701; have n17_ := nc_ hg BK701; clear HO704; clear HO708; clear BK683; clear BK684; clear BK694; clear BK701; clear HB; have HO704 := n0_; have HO708 := n1_; have BK683 := n2_; have BK684 := n3_; have BK694 := n4_; have BK701 := n5_; have HB := n6_; have BK710 := n7_; have GW710 := n8_; have GE710 := n9_; have NB683_710 := n10_; have NB710_683 := n11_; have NB684_710 := n12_; have NB710_684 := n13_; have NB694_710 := n14_; have NB710_694 := n15_; have NB701_710 := n16_; have NB710_701 := n17_; clear n0_ n1_ n2_ n3_ n4_ n5_ n6_ n7_ n8_ n9_ n10_ n11_ n12_ n13_ n14_ n15_ n16_ n17_; clear hb hbox hg; have hnb58 := NB710_683.out; have hnc58 := NB683_710.out; have hnb59 := NB710_684.out; have hnc59 := NB684_710.out; have hnb60 := NB710_694.out; have hnc60 := NB694_710.out; have hnb61 := NB710_701.out; have hnc61 := NB701_710.out; obtain ⟨hcz62_0, hcz62_1, hcz62_2, hfz62_0, hfz62_1, hfz62_2⟩ := c3_ BK710; obtain ⟨Ao63, co63, eo63⟩ := Kd.R_slice HO708.out; subst eo63; obtain ⟨hcz64_0, hcz64_1, hcz64_2, hfz64_0, hfz64_1, hfz64_2⟩ := c3_ BK694; obtain ⟨hcz65_0, hcz65_1, hcz65_2, hfz65_0, hfz65_1, hfz65_2⟩ := c3_ BK701) | ((with_reducible refine gate_callee (f := 8) rfl ?_); refine gl_ (some 56) Tryd.func8 #[.agg #[.bool t688, .slice Ao23 t689.length co23, .int .i64 t692], .agg #[.bool t695, .slice Ao31 t696.length co31, .int .i64 t699]] ?_; (with_reducible refine (dy_Mul.calls kj7 t688 _ _ t689 t692 t695 _ _ t696 t699 t711 t712 t715 _ ?side1 ?side2 ?side3 ?side4 A38.out ?sidet).mono ?_); (case sidet => exact Kd.C_below HTAB.out (bw_ HB.out)); (case side1 => exact Kd.C_below HCHO_695001.out.2.2 (bw_ HBC.out)); (case side2 => exact HCHO_695001.out.2.1); (case side3 => exact Kd.C_below HCHO_702001.out.2.2 (bw_ HBC.out)); (case side4 => exact HCHO_702001.out.2.1); rintro e w66 ⟨v713, rfl, ho0, hb⟩; refine ⟨_, rfl, ?_⟩; have n0_ := Aside0.mk (Kd.N_elder' (by (with_reducible repeat (first | apply Kd.N_alloc | apply Kd.N_drewN | apply Kd.N_drew)); exact (Kd.N_mono (Kd.N_far (p := ⟨gb710, 2, none⟩) (Kd.N_far (p := ⟨gb710, 1, none⟩) (Kd.N_far (p := ⟨gb710, 0, none⟩) (Kd.N_mono HO704.out (fun k_ hk => (⟨hk, hk.2⟩ : _ ∧ k_ ≠ gb710))) (fun _ hk => hk.2) (.bool t705)) (fun _ hk => hk.2) (.slice Ao63 t706.length co63)) (fun _ hk => hk.2) (.int .i64 t709)) (fun _ h_ => h_.1))) (Kd.R_base ho0) hb); have n1_ := Aside0.mk (Kd.R_elder' (kr_ ((Kd.R_mono (Kd.R_far (p := ⟨gb710, 2, none⟩) (Kd.R_far (p := ⟨gb710, 1, none⟩) (Kd.R_far (p := ⟨gb710, 0, none⟩) (Kd.R_types HO708.out BK710.out (by decide)) (fun _ hk => hk.2) (.bool t705)) (fun _ hk => hk.2) (.slice Ao63 t706.length co63)) (fun _ hk => hk.2) (.int .i64 t709)) (fun _ h_ => h_.1)))) (Kd.R_base ho0) hb); have n2_ := Aside0.mk (Kd.R_lower (Kd.R_new' ho0 (Kd.R_lt (kr_ ((Kd.R_mono (Kd.R_far (p := ⟨gb710, 2, none⟩) (Kd.R_far (p := ⟨gb710, 1, none⟩) (Kd.R_far (p := ⟨gb710, 0, none⟩) (Kd.R_types HO708.out BK710.out (by decide)) (fun _ hk => hk.2) (.bool t705)) (fun _ hk => hk.2) (.slice Ao63 t706.length co63)) (fun _ hk => hk.2) (.int .i64 t709)) (fun _ h_ => h_.1)))))) (below_size (bw_ HB.out))); have n3_ := Aside0.mk (blk_below (g := gb683) (o := .cells #[.int .i64 a0_0, .bool a0_1, .int .u64 a0_2, .int .i64 a0_3] 24 (0, 0)) (by refine kb_ ?_; refine bf_ NB683_710 ?_; refine bf_ NB683_710 ?_; refine bf_ NB683_710 ?_; exact BK683.out) hb); have n4_ := Aside0.mk (blk_below (g := gb684) (o := .cells #[.int .i64 a1_0, .bool a1_1, .int .u64 a1_2, .int .i64 a1_3] 24 (0, 0)) (by refine kb_ ?_; refine bf_ NB684_710 ?_; refine bf_ NB684_710 ?_; refine bf_ NB684_710 ?_; exact BK684.out) hb); have n5_ := Aside0.mk (blk_below (g := gb694) (o := .cells #[.bool t688, .slice Ao23 t689.length co23, .int .i64 t692] 31 (0, 0)) (by refine kb_ ?_; refine bf_ NB694_710 ?_; refine bf_ NB694_710 ?_; refine bf_ NB694_710 ?_; exact BK694.out) hb); have n6_ := Aside0.mk (blk_below (g := gb701) (o := .cells #[.bool t695, .slice Ao31 t696.length co31, .int .i64 t699] 31 (0, 0)) (by refine kb_ ?_; refine bf_ NB701_710 ?_; refine bf_ NB701_710 ?_; refine bf_ NB701_710 ?_; exact BK701.out) hb); have n7_ := Aside0.mk (blk_below (g := gb710) (o := .cells #[.bool t705, .slice Ao63 t706.length co63, .int .i64 t709] 31 (0, 0)) (by refine kb_ ?_; refine bp_ #[.bool t705, .slice Ao63 t706.length co63, .int .i64 0] 2 ?_; refine bp_ #[.bool t705, .slice none 0 0, .int .i64 0] 1 ?_; refine bp_ #[.bool false, .slice none 0 0, .int .i64 0] 0 ?_; exact BK710.out) hb); replace HBC := bq_ HBC hb; have n8_ := bq_ HB hb; clear HO704; clear HO708; clear BK683; clear BK684; clear BK694; clear BK701; clear BK710; clear HB; have HO704 := n0_; have HO708 := n1_; have HO714 := n2_; have BK683 := n3_; have BK684 := n4_; have BK694 := n5_; have BK701 := n6_; have BK710 := n7_; have HB := n8_; clear n0_ n1_ n2_ n3_ n4_ n5_ n6_ n7_ n8_; (try clear hb); (try clear hb2); (try clear hk); (try clear hi); (try clear ho0)) | ((with_reducible refine gate_dst (N := 13) rfl ?_); refine bx_ 13 #[.bool false, .slice none 0 0, .int .i64 0] 31 ?_; intro gb716 hg w67 hbox hb; have n0_ := Aside0.mk (Kd.N_below (Kd.N_elderB (by (with_reducible repeat (first | apply Kd.N_alloc | apply Kd.N_drewN | apply Kd.N_drew)); exact HO704.out) gb716 (Nat.le_of_eq hg.symm)) hb); have n1_ := Aside0.mk (Kd.R_below (kr_ HO708.out) hb); have n2_ := Aside0.mk (Kd.R_below (kr_ HO714.out) hb); have n3_ := kq_ BK683 hb; have n4_ := kq_ BK684 hb; have n5_ := kq_ BK694 hb; have n6_ := kq_ BK701 hb; have n7_ := kq_ BK710 hb; have GC716 := ge_ hg HBC; replace HBC := bq_ HBC hb; have n8_ := bq_ HB hb; have n9_ := Aside0.mk (hbox); have n10_ := ge_ hg HB; have n11_ := ge_ hg HB; have n12_ := nb_ hg BK683; have n13_ := nc_ hg BK683; have n14_ := nb_ hg BK684; have n15_ := nc_ hg BK684; have n16_ := nb_ hg BK694; have n17_ := nc_ hg BK694; have n18_ := nb_ hg BK701; have n19_ := nc_ hg BK701; have n20_ := nb_ hg BK710; have n21_ := nc_ hg BK710; clear HO704; clear HO708; clear HO714; clear BK683; clear BK684; clear BK694; clear BK701; clear BK710; clear HB; have HO704 := n0_; have HO708 := n1_; have HO714 := n2_; have BK683 := n3_; have BK684 := n4_; have BK694 := n5_; have BK701 := n6_; have BK710 := n7_; have HB := n8_; have BK716 := n9_; have GW716 := n10_; have GE716 := n11_; have NB683_716 := n12_; have NB716_683 := n13_; have NB684_716 := n14_; have NB716_684 := n15_; have NB694_716 := n16_; have NB716_694 := n17_; have NB701_716 := n18_; have NB716_701 := n19_; have NB710_716 := n20_; have NB716_710 := n21_; clear n0_ n1_ n2_ n3_ n4_ n5_ n6_ n7_ n8_ n9_ n10_ n11_ n12_ n13_ n14_ n15_ n16_ n17_ n18_ n19_ n20_ n21_; clear hb hbox hg; have hnb68 := NB716_683.out; have hnc68 := NB683_716.out; have hnb69 := NB716_684.out; have hnc69 := NB684_716.out; have hnb70 := NB716_694.out; have hnc70 := NB694_716.out; have hnb71 := NB716_701.out; have hnc71 := NB701_716.out; have hnb72 := NB716_710.out; have hnc72 := NB710_716.out; obtain ⟨hcz73_0, hcz73_1, hcz73_2, hfz73_0, hfz73_1, hfz73_2⟩ := c3_ BK716; obtain ⟨Ao74, co74, eo74⟩ := Kd.R_slice HO714.out; subst eo74))
     have n0_ : Aside0 (Kd.N k31 31 (((w67.setCell ⟨gb716, 0, none⟩ (.bool t711)).setCell ⟨gb716, 1, none⟩ (.slice Ao74 t712.length co74)).setCell ⟨gb716, 2, none⟩ (.int .i64 t715)) w.heap.size (fun k_ => some k_ ≠ (.slice Ao63 t706.length co63 : Value).ownBlock ∧ some k_ ≠ (.slice Ao74 t712.length co74 : Value).ownBlock ∧ k_ ≠ gb683 ∧ k_ ≠ gb684 ∧ k_ ≠ gb694 ∧ k_ ≠ gb701 ∧ k_ ≠ gb710 ∧ k_ ≠ gb716) (.slice Ao55 y702.length co55) y702) := ⟨by (with_reducible repeat (first | apply Kd.N_alloc | apply Kd.N_drewN | apply Kd.N_drew)); exact Kd.N_mono (Kd.N_far (p := ⟨gb716, 2, none⟩) (Kd.N_far (p := ⟨gb716, 1, none⟩) (Kd.N_far (p := ⟨gb716, 0, none⟩) (Kd.N_mono HO704.out (fun k_ hk => (⟨hk, hk.2⟩ : _ ∧ k_ ≠ gb716))) (fun _ hk => hk.2) (.bool t711)) (fun _ hk => hk.2) (.slice Ao74 t712.length co74)) (fun _ hk => hk.2) (.int .i64 t715)) (fun _ hk => by first | exact ⟨hk.1.1.1.1.2, ⟨hk.1.1.2, ⟨hk.1.1.1.1.1.1, ⟨hk.1.1.1.1.1.2.1, ⟨hk.1.1.1.1.1.2.2.1, ⟨hk.1.1.1.1.1.2.2.2, ⟨hk.1.1.1.2, hk.1.2⟩⟩⟩⟩⟩⟩⟩ | simp [hk])⟩
     have n1_ : Aside0 (Kd.R (Kd.int .u32) 44 (((w67.setCell ⟨gb716, 0, none⟩ (.bool t711)).setCell ⟨gb716, 1, none⟩ (.slice Ao74 t712.length co74)).setCell ⟨gb716, 2, none⟩ (.int .i64 t715)) w.heap.size (fun k_ => some k_ ≠ (.slice Ao74 t712.length co74 : Value).ownBlock) (.slice Ao63 t706.length co63) t706) := ⟨by (with_reducible repeat (first | apply Kd.R_alloc | apply Kd.R_drewN | apply Kd.R_drew)); exact Kd.R_mono (Kd.R_far (p := ⟨gb716, 2, none⟩) (Kd.R_far (p := ⟨gb716, 1, none⟩) (Kd.R_far (p := ⟨gb716, 0, none⟩) (Kd.R_types HO708.out BK716.out (by decide)) (fun _ hk => hk.2) (.bool t711)) (fun _ hk => hk.2) (.slice Ao74 t712.length co74)) (fun _ hk => hk.2) (.int .i64 t715)) (fun _ hk => hk.1.2)⟩
     have n2_ : Aside0 (Kd.R (Kd.int .u32) 44 (((w67.setCell ⟨gb716, 0, none⟩ (.bool t711)).setCell ⟨gb716, 1, none⟩ (.slice Ao74 t712.length co74)).setCell ⟨gb716, 2, none⟩ (.int .i64 t715)) w.heap.size (fun k_ => some k_ ≠ (.slice Ao63 t706.length co63 : Value).ownBlock) (.slice Ao74 t712.length co74) t712) := ⟨by (with_reducible repeat (first | apply Kd.R_alloc | apply Kd.R_drewN | apply Kd.R_drew)); exact Kd.R_mono (Kd.R_far (p := ⟨gb716, 2, none⟩) (Kd.R_far (p := ⟨gb716, 1, none⟩) (Kd.R_far (p := ⟨gb716, 0, none⟩) (Kd.R_types HO714.out BK716.out (by decide)) (fun _ hk => hk.2) (.bool t711)) (fun _ hk => hk.2) (.slice Ao74 t712.length co74)) (fun _ hk => hk.2) (.int .i64 t715)) (fun _ hk => hk.1.2)⟩
     have n3_ : Aside0 ((((w67.setCell ⟨gb716, 0, none⟩ (.bool t711)).setCell ⟨gb716, 1, none⟩ (.slice Ao74 t712.length co74)).setCell ⟨gb716, 2, none⟩ (.int .i64 t715)).heap[gb683]? = some (.cells #[.int .i64 a0_0, .bool a0_1, .int .u64 a0_2, .int .i64 a0_3] 24 (0, 0))) := ⟨by refine kb_ ?_; refine bf_ NB683_716 ?_; refine bf_ NB683_716 ?_; refine bf_ NB683_716 ?_; exact BK683.out⟩
     have n4_ : Aside0 ((((w67.setCell ⟨gb716, 0, none⟩ (.bool t711)).setCell ⟨gb716, 1, none⟩ (.slice Ao74 t712.length co74)).setCell ⟨gb716, 2, none⟩ (.int .i64 t715)).heap[gb684]? = some (.cells #[.int .i64 a1_0, .bool a1_1, .int .u64 a1_2, .int .i64 a1_3] 24 (0, 0))) := ⟨by refine kb_ ?_; refine bf_ NB684_716 ?_; refine bf_ NB684_716 ?_; refine bf_ NB684_716 ?_; exact BK684.out⟩
     have n5_ : Aside0 ((((w67.setCell ⟨gb716, 0, none⟩ (.bool t711)).setCell ⟨gb716, 1, none⟩ (.slice Ao74 t712.length co74)).setCell ⟨gb716, 2, none⟩ (.int .i64 t715)).heap[gb694]? = some (.cells #[.bool t688, .slice Ao23 t689.length co23, .int .i64 t692] 31 (0, 0))) := ⟨by refine kb_ ?_; refine bf_ NB694_716 ?_; refine bf_ NB694_716 ?_; refine bf_ NB694_716 ?_; exact BK694.out⟩
     have n6_ : Aside0 ((((w67.setCell ⟨gb716, 0, none⟩ (.bool t711)).setCell ⟨gb716, 1, none⟩ (.slice Ao74 t712.length co74)).setCell ⟨gb716, 2, none⟩ (.int .i64 t715)).heap[gb701]? = some (.cells #[.bool t695, .slice Ao31 t696.length co31, .int .i64 t699] 31 (0, 0))) := ⟨by refine kb_ ?_; refine bf_ NB701_716 ?_; refine bf_ NB701_716 ?_; refine bf_ NB701_716 ?_; exact BK701.out⟩
     have n7_ : Aside0 ((((w67.setCell ⟨gb716, 0, none⟩ (.bool t711)).setCell ⟨gb716, 1, none⟩ (.slice Ao74 t712.length co74)).setCell ⟨gb716, 2, none⟩ (.int .i64 t715)).heap[gb710]? = some (.cells #[.bool t705, .slice Ao63 t706.length co63, .int .i64 t709] 31 (0, 0))) := ⟨by refine kb_ ?_; refine bf_ NB710_716 ?_; refine bf_ NB710_716 ?_; refine bf_ NB710_716 ?_; exact BK710.out⟩
     have n8_ : Aside0 ((((w67.setCell ⟨gb716, 0, none⟩ (.bool t711)).setCell ⟨gb716, 1, none⟩ (.slice Ao74 t712.length co74)).setCell ⟨gb716, 2, none⟩ (.int .i64 t715)).heap[gb716]? = some (.cells #[.bool t711, .slice Ao74 t712.length co74, .int .i64 t715] 31 (0, 0))) := ⟨by refine kb_ ?_; refine bp_ #[.bool t711, .slice Ao74 t712.length co74, .int .i64 0] 2 ?_; refine bp_ #[.bool t711, .slice none 0 0, .int .i64 0] 1 ?_; refine bp_ #[.bool false, .slice none 0 0, .int .i64 0] 0 ?_; exact BK716.out⟩
     have n9_ : Aside0 (Below w.heap.size w (((w67.setCell ⟨gb716, 0, none⟩ (.bool t711)).setCell ⟨gb716, 1, none⟩ (.slice Ao74 t712.length co74)).setCell ⟨gb716, 2, none⟩ (.int .i64 t715))) := ⟨bw_ HB.out⟩
     (try clear HO704)
     (try clear HO708)
     (try clear HO714)
     (try clear BK683)
     (try clear BK684)
     (try clear BK694)
     (try clear BK701)
     (try clear BK710)
     (try clear BK716)
     (try clear HB)
     have HBC9_ : Aside0 (Below _ _ (((w67.setCell ⟨gb716, 0, none⟩ (.bool t711)).setCell ⟨gb716, 1, none⟩ (.slice Ao74 t712.length co74)).setCell ⟨gb716, 2, none⟩ (.int .i64 t715))) := Aside0.mk (bw_ HBC.out)
     clear HBC
     generalize (((w67.setCell ⟨gb716, 0, none⟩ (.bool t711)).setCell ⟨gb716, 1, none⟩ (.slice Ao74 t712.length co74)).setCell ⟨gb716, 2, none⟩ (.int .i64 t715)) = w75 at n0_ n1_ n2_ n3_ n4_ n5_ n6_ n7_ n8_ n9_ HBC9_ ⊢
     have HBC := HBC9_
     have HO704 := n0_
     have HO708 := n1_
     have HO714 := n2_
     have BK683 := n3_
     have BK684 := n4_
     have BK694 := n5_
     have BK701 := n6_
     have BK710 := n7_
     have BK716 := n8_
     have HB := n9_
     clear n0_ n1_ n2_ n3_ n4_ n5_ n6_ n7_ n8_ n9_
     replace HO704 := Aside0.mk (Kd.N_drew HO704.out)
     replace HO708 := Aside0.mk (Kd.R_drew HO708.out)
     replace HO714 := Aside0.mk (Kd.R_drew HO714.out)
     replace BK683 := Aside0.mk (blk_drew BK683.out)
     replace BK684 := Aside0.mk (blk_drew BK684.out)
     replace BK694 := Aside0.mk (blk_drew BK694.out)
     replace BK701 := Aside0.mk (blk_drew BK701.out)
     replace BK710 := Aside0.mk (blk_drew BK710.out)
     replace BK716 := Aside0.mk (blk_drew BK716.out)
     replace HBC := Aside0.mk (below_drew1 HBC.out)
     replace HB := Aside0.mk (below_drew1 HB.out)
     refine start_ (n := 9) (S := fun w' => w'.cell? ⟨gb710, 0, none⟩ = some (.bool t705) ∧ w'.cell? ⟨gb710, 1, none⟩ = some (.slice Ao63 t706.length co63) ∧ w'.cell? ⟨gb710, 2, none⟩ = some (.int .i64 t709) ∧ w'.cell? ⟨gb683, 0, none⟩ = some (.int .i64 a0_0) ∧ w'.cell? ⟨gb683, 1, none⟩ = some (.bool a0_1) ∧ w'.cell? ⟨gb683, 2, none⟩ = some (.int .u64 a0_2) ∧ w'.cell? ⟨gb683, 3, none⟩ = some (.int .i64 a0_3) ∧ w'.cell? ⟨gb684, 0, none⟩ = some (.int .i64 a1_0) ∧ w'.cell? ⟨gb684, 1, none⟩ = some (.bool a1_1) ∧ w'.cell? ⟨gb684, 2, none⟩ = some (.int .u64 a1_2) ∧ w'.cell? ⟨gb684, 3, none⟩ = some (.int .i64 a1_3)) (ds := []) #[false, false, false, false, false, false, false, false, false] (by kernel_rfl) rfl rfl ⟨(blk_cell BK710.out 0).trans rfl, (blk_cell BK710.out 1).trans rfl, (blk_cell BK710.out 2).trans rfl, (blk_cell BK683.out 0).trans rfl, (blk_cell BK683.out 1).trans rfl, (blk_cell BK683.out 2).trans rfl, (blk_cell BK683.out 3).trans rfl, (blk_cell BK684.out 0).trans rfl, (blk_cell BK684.out 1).trans rfl, (blk_cell BK684.out 2).trans rfl, (blk_cell BK684.out 3).trans rfl⟩ (fun hHeld => ?_); refine with_tabW peloruslaw06_ArithHolds.tab10 peloruslaw06_ArithHolds.bits10 (fun HT_ HW_ => ?_)
     generalize w75.drew = w76 at HO704 HO708 HO714 BK683 BK684 BK694 BK701 BK710 BK716 HB HBC hHeld ⊢
     refine take_ (i := 0) (N := some 57) (v := ?_) (a' := ?_) #[true, false, false, false, false, false, false, false, false] rfl rfl (take_ofW HT_.out HW_.out (by kernel_rfl)) (fun _ _ _ h => h) (Or.inl ⟨by rfl, ?_⟩) hHeld ?_ ?_
     rotate_left
     ·rintro w' ⟨s0, s1, s2, s3, s4, s5, s6, s7, s8, s9, s10⟩
      go_simp
      with_reducible rfl
     rotate_left
     ·exact pt_
     refine take_ (i := 1) (N := some 58) (v := ?_) (a' := ?_) #[true, true, false, false, false, false, false, false, false] rfl rfl (take_ofW HT_.out HW_.out (by kernel_rfl)) (fun _ _ _ h => h) (Or.inl ⟨by rfl, ?_⟩) hHeld ?_ ?_
     rotate_left
     ·rintro w' ⟨s0, s1, s2, s3, s4, s5, s6, s7, s8, s9, s10⟩
      go_simp
      with_reducible rfl
     rotate_left
     ·exact pt_
     refine take_ (i := 2) (N := some 59) (v := ?_) (a' := ?_) #[true, true, true, false, false, false, false, false, false] rfl rfl (take_ofW HT_.out HW_.out (by kernel_rfl)) (fun _ _ _ h => h) (Or.inl ⟨by rfl, ?_⟩) hHeld ?_ ?_
     rotate_left
     ·rintro w' ⟨s0, s1, s2, s3, s4, s5, s6, s7, s8, s9, s10⟩
      go_simp
      with_reducible rfl
     rotate_left
     ·exact pt_
     refine take_ (i := 4) (N := some 61) (v := ?_) (a' := ?_) #[true, true, true, false, true, false, false, false, false] rfl rfl (take_ofW HT_.out HW_.out (by kernel_rfl)) (fun _ _ _ h => h) (Or.inl ⟨by rfl, ?_⟩) hHeld ?_ ?_
     rotate_left
     ·rintro w' ⟨s0, s1, s2, s3, s4, s5, s6, s7, s8, s9, s10⟩
      go_simp
      with_reducible rfl
     rotate_left
     ·exact pt_
     refine take_ (i := 5) (N := some 62) (v := ?_) (a' := ?_) #[true, true, true, false, true, true, false, false, false] rfl rfl (take_ofW HT_.out HW_.out (by kernel_rfl)) (fun _ _ _ h => h) (Or.inl ⟨by rfl, ?_⟩) hHeld ?_ ?_
     rotate_left
     ·rintro w' ⟨s0, s1, s2, s3, s4, s5, s6, s7, s8, s9, s10⟩
      go_simp
      with_reducible rfl
     rotate_left
     ·exact pt_
     refine one_ (i := 3) (N := some 60) #[true, true, true, true, true, true, false, false, false] rfl rfl (one_of HT_.out (by kernel_rfl)) (by decide) (fun K hK => ?_)
     refine gs_ Tryd.func10 #[.agg #[.int .i64 a0_0, .bool a0_1, .int .u64 a0_2, .int .i64 a0_3], .agg #[.int .i64 a1_0, .bool a1_1, .int .u64 a1_2, .int .i64 a1_3], .bool false] ?_
     with_reducible refine (arith_Add.calls kj7 a0_0 a0_1 a0_2 a0_3 a1_0 a1_1 a1_2 a1_3 false t717 t718 t719 t720 _ A39.out).mono ?_
     rintro e w77 ⟨rfl, hb⟩
     refine ⟨_, rfl, ?_⟩
     have n0_ := Aside0.mk (Kd.N_below (by (with_reducible repeat (first | apply Kd.N_alloc | apply Kd.N_drewN | apply Kd.N_drew)); exact HO704.out) hb)
     have n1_ := Aside0.mk (Kd.R_below (kr_ HO708.out) hb)
     have n2_ := Aside0.mk (Kd.R_below (kr_ HO714.out) hb)
     have n3_ := kq_ BK683 hb
     have n4_ := kq_ BK684 hb
     have n5_ := kq_ BK694 hb
     have n6_ := kq_ BK701 hb
     have n7_ := kq_ BK710 hb
     have n8_ := kq_ BK716 hb
     replace HBC := bq_ HBC hb
     have n9_ := bq_ HB hb
     clear HO704
     clear HO708
     clear HO714
     clear BK683
     clear BK684
     clear BK694
     clear BK701
     clear BK710
     clear BK716
     clear HB
     have HO704 := n0_
     have HO708 := n1_
     have HO714 := n2_
     have BK683 := n3_
     have BK684 := n4_
     have BK694 := n5_
     have BK701 := n6_
     have BK710 := n7_
     have BK716 := n8_
     have HB := n9_
     clear n0_ n1_ n2_ n3_ n4_ n5_ n6_ n7_ n8_ n9_
     (try clear hb)
     (try clear hb2)
     (try clear hk)
     (try clear hi)
     refine hK.out _ _ ⟨(blk_cell BK710.out 0).trans rfl, (blk_cell BK710.out 1).trans rfl, (blk_cell BK710.out 2).trans rfl, (blk_cell BK683.out 0).trans rfl, (blk_cell BK683.out 1).trans rfl, (blk_cell BK683.out 2).trans rfl, (blk_cell BK683.out 3).trans rfl, (blk_cell BK684.out 0).trans rfl, (blk_cell BK684.out 1).trans rfl, (blk_cell BK684.out 2).trans rfl, (blk_cell BK684.out 3).trans rfl⟩ (fun hHeld => ?_)
     clear hK K
     refine norm_ (a' := ?_) ?_ ?_
     rotate_left
     ·show Act.put _ (some 60) _ = _
      exact pt_
     refine one_ (i := 6) (N := some 63) #[true, true, true, true, true, true, true, false, false] rfl rfl (one_of HT_.out (by kernel_rfl)) (by decide) (fun K hK => ?_)
     refine gs_ Tryd.func10 #[.agg #[.int .i64 a0_0, .bool a0_1, .int .u64 a0_2, .int .i64 a0_3], .agg #[.int .i64 a1_0, .bool a1_1, .int .u64 a1_2, .int .i64 a1_3], .bool true] ?_
     with_reducible refine (arith_Add.calls kj7 a0_0 a0_1 a0_2 a0_3 a1_0 a1_1 a1_2 a1_3 true t721 t722 t723 t724 _ A40.out).mono ?_
     rintro e w78 ⟨rfl, hb⟩
     refine ⟨_, rfl, ?_⟩
     have n0_ := Aside0.mk (Kd.N_below (by (with_reducible repeat (first | apply Kd.N_alloc | apply Kd.N_drewN | apply Kd.N_drew)); exact HO704.out) hb)
     have n1_ := Aside0.mk (Kd.R_below (kr_ HO708.out) hb)
     have n2_ := Aside0.mk (Kd.R_below (kr_ HO714.out) hb)
     have n3_ := kq_ BK683 hb
     have n4_ := kq_ BK684 hb
     have n5_ := kq_ BK694 hb
     have n6_ := kq_ BK701 hb
     have n7_ := kq_ BK710 hb
     have n8_ := kq_ BK716 hb
     replace HBC := bq_ HBC hb
     have n9_ := bq_ HB hb
     clear HO704
     clear HO708
     clear HO714
     clear BK683
     clear BK684
     clear BK694
     clear BK701
     clear BK710
     clear BK716
     clear HB
     have HO704 := n0_
     have HO708 := n1_
     have HO714 := n2_
     have BK683 := n3_
     have BK684 := n4_
     have BK694 := n5_
     have BK701 := n6_
     have BK710 := n7_
     have BK716 := n8_
     have HB := n9_
     clear n0_ n1_ n2_ n3_ n4_ n5_ n6_ n7_ n8_ n9_
     (try clear hb)
     (try clear hb2)
     (try clear hk)
     (try clear hi)
     refine hK.out _ _ ⟨(blk_cell BK710.out 0).trans rfl, (blk_cell BK710.out 1).trans rfl, (blk_cell BK710.out 2).trans rfl, (blk_cell BK683.out 0).trans rfl, (blk_cell BK683.out 1).trans rfl, (blk_cell BK683.out 2).trans rfl, (blk_cell BK683.out 3).trans rfl, (blk_cell BK684.out 0).trans rfl, (blk_cell BK684.out 1).trans rfl, (blk_cell BK684.out 2).trans rfl, (blk_cell BK684.out 3).trans rfl⟩ (fun hHeld => ?_)
     clear hK K
     refine norm_ (a' := ?_) ?_ ?_
     rotate_left
     ·show Act.put _ (some 63) _ = _
      exact pt_
     refine one_ (i := 7) (N := some 64) #[true, true, true, true, true, true, true, true, false] rfl rfl (one_of HT_.out (by kernel_rfl)) (by decide) (fun K hK => ?_)
     refine gs_ Tryd.func9 #[.agg #[.bool t705, .slice Ao63 t706.length co63, .int .i64 t709], .agg #[.int .i64 t717, .bool t718, .int .u64 t719, .int .i64 t720], .agg #[.int .i64 t721, .bool t722, .int .u64 t723, .int .i64 t724]] ?_
     with_reducible refine (peloruslaw06_holds.calls kj7 t705 _ _ t706 t709 t717 t718 t719 t720 t721 t722 t723 t724 true _ ?side1 ?side2 A41.out ?sidet).mono ?_
     (case sidet => exact Kd.C_below HTAB.out (bw_ HB.out))
     (case side1 => exact kc_ (Kd.R_reads' HO708.out).2.2)
     (case side2 => exact (Kd.R_reads' HO708.out).2.1)
     rintro e w79 ⟨rfl, hb⟩
     refine ⟨_, rfl, ?_⟩
     have n0_ := Aside0.mk (Kd.N_below (by (with_reducible repeat (first | apply Kd.N_alloc | apply Kd.N_drewN | apply Kd.N_drew)); exact HO704.out) hb)
     have n1_ := Aside0.mk (Kd.R_below (kr_ HO708.out) hb)
     have n2_ := Aside0.mk (Kd.R_below (kr_ HO714.out) hb)
     have n3_ := kq_ BK683 hb
     have n4_ := kq_ BK684 hb
     have n5_ := kq_ BK694 hb
     have n6_ := kq_ BK701 hb
     have n7_ := kq_ BK710 hb
     have n8_ := kq_ BK716 hb
     replace HBC := bq_ HBC hb
     have n9_ := bq_ HB hb
     clear HO704
     clear HO708
     clear HO714
     clear BK683
     clear BK684
     clear BK694
     clear BK701
     clear BK710
     clear BK716
     clear HB
     have HO704 := n0_
     have HO708 := n1_
     have HO714 := n2_
     have BK683 := n3_
     have BK684 := n4_
     have BK694 := n5_
     have BK701 := n6_
     have BK710 := n7_
     have BK716 := n8_
     have HB := n9_
     clear n0_ n1_ n2_ n3_ n4_ n5_ n6_ n7_ n8_ n9_
     (try clear hb)
     (try clear hb2)
     (try clear hk)
     (try clear hi)
     refine hK.out _ _ ⟨(blk_cell BK710.out 0).trans rfl, (blk_cell BK710.out 1).trans rfl, (blk_cell BK710.out 2).trans rfl, (blk_cell BK683.out 0).trans rfl, (blk_cell BK683.out 1).trans rfl, (blk_cell BK683.out 2).trans rfl, (blk_cell BK683.out 3).trans rfl, (blk_cell BK684.out 0).trans rfl, (blk_cell BK684.out 1).trans rfl, (blk_cell BK684.out 2).trans rfl, (blk_cell BK684.out 3).trans rfl⟩ (fun hHeld => ?_)
     clear hK K
     refine norm_ (a' := ?_) ?_ ?_
     rotate_left
     ·show Act.put _ (some 64) _ = _
      exact pt_
     refine pure_ (i := 8) (N := some 14) (v := ?_) (a' := ?_) #[true, true, true, true, true, true, true, true, true] rfl rfl (any_of HT_.out (by kernel_rfl)) (fun _ _ _ h => h) (Or.inl ⟨by rfl, ?_⟩) ?_ ?_
     rotate_left
     ·intro w'
      go_simp
      with_reducible rfl
     rotate_left
     ·exact pt_
     refine done_ (done_of HT_.out (by kernel_rfl)) ?_
     try go_wp2
     replace HO704 := Aside0.mk (Kd.N_drew HO704.out)
     replace HO708 := Aside0.mk (Kd.R_drew HO708.out)
     replace HO714 := Aside0.mk (Kd.R_drew HO714.out)
     replace BK683 := Aside0.mk (blk_drew BK683.out)
     replace BK684 := Aside0.mk (blk_drew BK684.out)
     replace BK694 := Aside0.mk (blk_drew BK694.out)
     replace BK701 := Aside0.mk (blk_drew BK701.out)
     replace BK710 := Aside0.mk (blk_drew BK710.out)
     replace BK716 := Aside0.mk (blk_drew BK716.out)
     replace HBC := Aside0.mk (below_drew1 HBC.out)
     replace HB := Aside0.mk (below_drew1 HB.out)
     refine start_ (n := 9) (S := fun w' => w'.cell? ⟨gb716, 0, none⟩ = some (.bool t711) ∧ w'.cell? ⟨gb716, 1, none⟩ = some (.slice Ao74 t712.length co74) ∧ w'.cell? ⟨gb716, 2, none⟩ = some (.int .i64 t715) ∧ w'.cell? ⟨gb683, 0, none⟩ = some (.int .i64 a0_0) ∧ w'.cell? ⟨gb683, 1, none⟩ = some (.bool a0_1) ∧ w'.cell? ⟨gb683, 2, none⟩ = some (.int .u64 a0_2) ∧ w'.cell? ⟨gb683, 3, none⟩ = some (.int .i64 a0_3) ∧ w'.cell? ⟨gb684, 0, none⟩ = some (.int .i64 a1_0) ∧ w'.cell? ⟨gb684, 1, none⟩ = some (.bool a1_1) ∧ w'.cell? ⟨gb684, 2, none⟩ = some (.int .u64 a1_2) ∧ w'.cell? ⟨gb684, 3, none⟩ = some (.int .i64 a1_3)) (ds := []) #[false, false, false, false, false, false, false, false, false] (by kernel_rfl) rfl rfl ⟨(blk_cell BK716.out 0).trans rfl, (blk_cell BK716.out 1).trans rfl, (blk_cell BK716.out 2).trans rfl, (blk_cell BK683.out 0).trans rfl, (blk_cell BK683.out 1).trans rfl, (blk_cell BK683.out 2).trans rfl, (blk_cell BK683.out 3).trans rfl, (blk_cell BK684.out 0).trans rfl, (blk_cell BK684.out 1).trans rfl, (blk_cell BK684.out 2).trans rfl, (blk_cell BK684.out 3).trans rfl⟩ (fun hHeld => ?_); refine with_tabW peloruslaw06_ArithHolds.tab11 peloruslaw06_ArithHolds.bits11 (fun HT_ HW_ => ?_)
     generalize w79.drew = w80 at HO704 HO708 HO714 BK683 BK684 BK694 BK701 BK710 BK716 HB HBC hHeld ⊢
     refine take_ (i := 0) (N := some 65) (v := ?_) (a' := ?_) #[true, false, false, false, false, false, false, false, false] rfl rfl (take_ofW HT_.out HW_.out (by kernel_rfl)) (fun _ _ _ h => h) (Or.inl ⟨by rfl, ?_⟩) hHeld ?_ ?_
     rotate_left
     ·rintro w' ⟨s0, s1, s2, s3, s4, s5, s6, s7, s8, s9, s10⟩
      go_simp
      with_reducible rfl
     rotate_left
     ·exact pt_
     refine take_ (i := 1) (N := some 66) (v := ?_) (a' := ?_) #[true, true, false, false, false, false, false, false, false] rfl rfl (take_ofW HT_.out HW_.out (by kernel_rfl)) (fun _ _ _ h => h) (Or.inl ⟨by rfl, ?_⟩) hHeld ?_ ?_
     rotate_left
     ·rintro w' ⟨s0, s1, s2, s3, s4, s5, s6, s7, s8, s9, s10⟩
      go_simp
      with_reducible rfl
     rotate_left
     ·exact pt_
     refine take_ (i := 2) (N := some 67) (v := ?_) (a' := ?_) #[true, true, true, false, false, false, false, false, false] rfl rfl (take_ofW HT_.out HW_.out (by kernel_rfl)) (fun _ _ _ h => h) (Or.inl ⟨by rfl, ?_⟩) hHeld ?_ ?_
     rotate_left
     ·rintro w' ⟨s0, s1, s2, s3, s4, s5, s6, s7, s8, s9, s10⟩
      go_simp
      with_reducible rfl
     rotate_left
     ·exact pt_
     refine take_ (i := 4) (N := some 69) (v := ?_) (a' := ?_) #[true, true, true, false, true, false, false, false, false] rfl rfl (take_ofW HT_.out HW_.out (by kernel_rfl)) (fun _ _ _ h => h) (Or.inl ⟨by rfl, ?_⟩) hHeld ?_ ?_
     rotate_left
     ·rintro w' ⟨s0, s1, s2, s3, s4, s5, s6, s7, s8, s9, s10⟩
      go_simp
      with_reducible rfl
     rotate_left
     ·exact pt_
     refine take_ (i := 5) (N := some 70) (v := ?_) (a' := ?_) #[true, true, true, false, true, true, false, false, false] rfl rfl (take_ofW HT_.out HW_.out (by kernel_rfl)) (fun _ _ _ h => h) (Or.inl ⟨by rfl, ?_⟩) hHeld ?_ ?_
     rotate_left
     ·rintro w' ⟨s0, s1, s2, s3, s4, s5, s6, s7, s8, s9, s10⟩
      go_simp
      with_reducible rfl
     rotate_left
     ·exact pt_
     refine one_ (i := 3) (N := some 68) #[true, true, true, true, true, true, false, false, false] rfl rfl (one_of HT_.out (by kernel_rfl)) (by decide) (fun K hK => ?_)
     refine gs_ Tryd.func11 #[.agg #[.int .i64 a0_0, .bool a0_1, .int .u64 a0_2, .int .i64 a0_3], .agg #[.int .i64 a1_0, .bool a1_1, .int .u64 a1_2, .int .i64 a1_3], .bool false] ?_
     with_reducible refine (arith_Mul.calls kj7 a0_0 a0_1 a0_2 a0_3 a1_0 a1_1 a1_2 a1_3 false t726 t727 t728 t729 _ A42.out).mono ?_
     rintro e w81 ⟨rfl, hb⟩
     refine ⟨_, rfl, ?_⟩
     have n0_ := Aside0.mk (Kd.N_below (by (with_reducible repeat (first | apply Kd.N_alloc | apply Kd.N_drewN | apply Kd.N_drew)); exact HO704.out) hb)
     have n1_ := Aside0.mk (Kd.R_below (kr_ HO708.out) hb)
     have n2_ := Aside0.mk (Kd.R_below (kr_ HO714.out) hb)
     have n3_ := kq_ BK683 hb
     have n4_ := kq_ BK684 hb
     have n5_ := kq_ BK694 hb
     have n6_ := kq_ BK701 hb
     have n7_ := kq_ BK710 hb
     have n8_ := kq_ BK716 hb
     replace HBC := bq_ HBC hb
     have n9_ := bq_ HB hb
     clear HO704
     clear HO708
     clear HO714
     clear BK683
     clear BK684
     clear BK694
     clear BK701
     clear BK710
     clear BK716
     clear HB
     have HO704 := n0_
     have HO708 := n1_
     have HO714 := n2_
     have BK683 := n3_
     have BK684 := n4_
     have BK694 := n5_
     have BK701 := n6_
     have BK710 := n7_
     have BK716 := n8_
     have HB := n9_
     clear n0_ n1_ n2_ n3_ n4_ n5_ n6_ n7_ n8_ n9_
     (try clear hb)
     (try clear hb2)
     (try clear hk)
     (try clear hi)
     refine hK.out _ _ ⟨(blk_cell BK716.out 0).trans rfl, (blk_cell BK716.out 1).trans rfl, (blk_cell BK716.out 2).trans rfl, (blk_cell BK683.out 0).trans rfl, (blk_cell BK683.out 1).trans rfl, (blk_cell BK683.out 2).trans rfl, (blk_cell BK683.out 3).trans rfl, (blk_cell BK684.out 0).trans rfl, (blk_cell BK684.out 1).trans rfl, (blk_cell BK684.out 2).trans rfl, (blk_cell BK684.out 3).trans rfl⟩ (fun hHeld => ?_)
     clear hK K
     refine norm_ (a' := ?_) ?_ ?_
     rotate_left
     ·show Act.put _ (some 68) _ = _
      exact pt_
     refine one_ (i := 6) (N := some 71) #[true, true, true, true, true, true, true, false, false] rfl rfl (one_of HT_.out (by kernel_rfl)) (by decide) (fun K hK => ?_)
     refine gs_ Tryd.func11 #[.agg #[.int .i64 a0_0, .bool a0_1, .int .u64 a0_2, .int .i64 a0_3], .agg #[.int .i64 a1_0, .bool a1_1, .int .u64 a1_2, .int .i64 a1_3], .bool true] ?_
     with_reducible refine (arith_Mul.calls kj7 a0_0 a0_1 a0_2 a0_3 a1_0 a1_1 a1_2 a1_3 true t730 t731 t732 t733 _ A43.out).mono ?_
     rintro e w82 ⟨rfl, hb⟩
     refine ⟨_, rfl, ?_⟩
     have n0_ := Aside0.mk (Kd.N_below (by (with_reducible repeat (first | apply Kd.N_alloc | apply Kd.N_drewN | apply Kd.N_drew)); exact HO704.out) hb)
     have n1_ := Aside0.mk (Kd.R_below (kr_ HO708.out) hb)
     have n2_ := Aside0.mk (Kd.R_below (kr_ HO714.out) hb)
     have n3_ := kq_ BK683 hb
     have n4_ := kq_ BK684 hb
     have n5_ := kq_ BK694 hb
     have n6_ := kq_ BK701 hb
     have n7_ := kq_ BK710 hb
     have n8_ := kq_ BK716 hb
     replace HBC := bq_ HBC hb
     have n9_ := bq_ HB hb
     clear HO704
     clear HO708
     clear HO714
     clear BK683
     clear BK684
     clear BK694
     clear BK701
     clear BK710
     clear BK716
     clear HB
     have HO704 := n0_
     have HO708 := n1_
     have HO714 := n2_
     have BK683 := n3_
     have BK684 := n4_
     have BK694 := n5_
     have BK701 := n6_
     have BK710 := n7_
     have BK716 := n8_
     have HB := n9_
     clear n0_ n1_ n2_ n3_ n4_ n5_ n6_ n7_ n8_ n9_
     (try clear hb)
     (try clear hb2)
     (try clear hk)
     (try clear hi)
     refine hK.out _ _ ⟨(blk_cell BK716.out 0).trans rfl, (blk_cell BK716.out 1).trans rfl, (blk_cell BK716.out 2).trans rfl, (blk_cell BK683.out 0).trans rfl, (blk_cell BK683.out 1).trans rfl, (blk_cell BK683.out 2).trans rfl, (blk_cell BK683.out 3).trans rfl, (blk_cell BK684.out 0).trans rfl, (blk_cell BK684.out 1).trans rfl, (blk_cell BK684.out 2).trans rfl, (blk_cell BK684.out 3).trans rfl⟩ (fun hHeld => ?_)
     clear hK K
     refine norm_ (a' := ?_) ?_ ?_
     rotate_left
     ·show Act.put _ (some 71) _ = _
      exact pt_
     refine one_ (i := 7) (N := some 72) #[true, true, true, true, true, true, true, true, false] rfl rfl (one_of HT_.out (by kernel_rfl)) (by decide) (fun K hK => ?_)
     refine gs_ Tryd.func9 #[.agg #[.bool t711, .slice Ao74 t712.length co74, .int .i64 t715], .agg #[.int .i64 t726, .bool t727, .int .u64 t728, .int .i64 t729], .agg #[.int .i64 t730, .bool t731, .int .u64 t732, .int .i64 t733]] ?_
     with_reducible refine (peloruslaw06_holds.calls kj7 t711 _ _ t712 t715 t726 t727 t728 t729 t730 t731 t732 t733 t734 _ ?side1 ?side2 A44.out ?sidet).mono ?_
     (case sidet => exact Kd.C_below HTAB.out (bw_ HB.out))
     (case side1 => exact kc_ (Kd.R_reads' HO714.out).2.2)
     (case side2 => exact (Kd.R_reads' HO714.out).2.1)
     rintro e w83 ⟨rfl, hb⟩
     refine ⟨_, rfl, ?_⟩
     have n0_ := Aside0.mk (Kd.N_below (by (with_reducible repeat (first | apply Kd.N_alloc | apply Kd.N_drewN | apply Kd.N_drew)); exact HO704.out) hb)
     have n1_ := Aside0.mk (Kd.R_below (kr_ HO708.out) hb)
     have n2_ := Aside0.mk (Kd.R_below (kr_ HO714.out) hb)
     have n3_ := kq_ BK683 hb
     have n4_ := kq_ BK684 hb
     have n5_ := kq_ BK694 hb
     have n6_ := kq_ BK701 hb
     have n7_ := kq_ BK710 hb
     have n8_ := kq_ BK716 hb
     replace HBC := bq_ HBC hb
     have n9_ := bq_ HB hb
     clear HO704
     clear HO708
     clear HO714
     clear BK683
     clear BK684
     clear BK694
     clear BK701
     clear BK710
     clear BK716
     clear HB
     have HO704 := n0_
     have HO708 := n1_
     have HO714 := n2_
     have BK683 := n3_
     have BK684 := n4_
     have BK694 := n5_
     have BK701 := n6_
     have BK710 := n7_
     have BK716 := n8_
     have HB := n9_
     clear n0_ n1_ n2_ n3_ n4_ n5_ n6_ n7_ n8_ n9_
     (try clear hb)
     (try clear hb2)
     (try clear hk)
     (try clear hi)
     refine hK.out _ _ ⟨(blk_cell BK716.out 0).trans rfl, (blk_cell BK716.out 1).trans rfl, (blk_cell BK716.out 2).trans rfl, (blk_cell BK683.out 0).trans rfl, (blk_cell BK683.out 1).trans rfl, (blk_cell BK683.out 2).trans rfl, (blk_cell BK683.out 3).trans rfl, (blk_cell BK684.out 0).trans rfl, (blk_cell BK684.out 1).trans rfl, (blk_cell BK684.out 2).trans rfl, (blk_cell BK684.out 3).trans rfl⟩ (fun hHeld => ?_)
     clear hK K
     refine norm_ (a' := ?_) ?_ ?_
     rotate_left
     ·show Act.put _ (some 72) _ = _
      exact pt_
     refine pure_ (i := 8) (N := some 15) (v := ?_) (a' := ?_) #[true, true, true, true, true, true, true, true, true] rfl rfl (any_of HT_.out (by kernel_rfl)) (fun _ _ _ h => h) (Or.inl ⟨by rfl, ?_⟩) ?_ ?_
     rotate_left
     ·intro w'
      go_simp
      with_reducible rfl
     rotate_left
     ·exact pt_
     refine done_ (done_of HT_.out (by kernel_rfl)) ?_
     try go_wp2
     go_ret
     exact ⟨rf_, bw_ HB.out⟩
    ·replace c45 := Bool.eq_false_iff.mpr c45
     subst c45
     have H1 : (some false) = some r := by rw [if_neg (show ¬ (false = true) by decide)] at H; exact H
     clear H
     have H := H1
     clear H1
     exact absurd ((Option.some.inj H).trans HRT_.out) (by simp)


end Go.Proofs.YthlhogcnfaiphaaDoor.PA
