-- Laid by this work's own program; Lean checks it.
import Derived.Test.YtbejmpocgnldnaaPZx0
import Derived.Test.YtbejmpocgnldnaaPZx1
import Derived.Test.YtbejmpocgnldnaaPZx2
import Derived.Test.YtbejmpocgnldnaaPZx4
import Derived.Test.YtbejmpocgnldnaaPZx7
import Derived.Test.YtbejmpocgnldnaaPZx8
import Derived.Test.YtbejmpocgnldnaaPZx9
import Derived.Test.YtbejmpocgnldnaaPZx11
import Derived.Test.YtbejmpocgnldnaaPZx13
namespace Go.Proofs.Ytbejmpocgnldnaa.PZ
open Go.RowKit Go.Proofs.YtbejmpocgnldnaaW.PrintWords Go.Proofs.YtbejmpocgnldnaaW.PrintLast Go.Proofs.YtbejmpocgnldnaaW.PrintMore
attribute [local go_sem] max2_int min2_int max_two min_two max_three min_three max_four min_four   -- for this text's walks alone
set_option linter.unusedVariables false
set_option linter.unusedSimpArgs false

attribute [local go_sem ↓ high] isSome_set_
/-! ### peloruslaw02_WholeBack: function 5 -/
theorem peloruslaw02_WholeBack.tab11 : rtab .any (opsOf Try.f5 11) = peloruslaw02_WholeBack.T11 := by kernel_rfl
theorem peloruslaw02_WholeBack.bits11 : waitsOk peloruslaw02_WholeBack.T11.2 peloruslaw02_WholeBack.B11 = true := by kernel_rfl
set_option maxHeartbeats 8000000 in
set_option maxRecDepth 100000 in
theorem peloruslaw02_WholeBack.calls (k : Nat) (a0_0 : Bool) (A0_1 : Option Addr) (c0_1 : Nat) (l0_1 : List Int) (a1_0 : Bool) (P1_1_ : Nat → Prop) (A1_1 : Option Addr) (c1_1 : Nat) (l1_1 : List Int) (r : Bool) (w : World) (hr0_1 : Kd.C (Kd.int .u32) w A0_1 l0_1.length l0_1) (hc0_1 : l0_1.length ≤ c0_1) (hs1_1 : Kd.V (Kd.int .u32) 47 w w.heap.size (fun k_ => P1_1_ k_) (.slice A1_1 l1_1.length c1_1) l1_1) (hr_ : r = true) (haw_ : ∀ r, peloruslaw02_awake.f k = some r → r = true) (h : peloruslaw02_WholeBack.f k a0_0 l0_1 a1_0 l1_1 = some r) :
  Calls Try.prog 5 #[.agg #[.bool a0_0, .slice A0_1 l0_1.length c0_1], .agg #[.bool a1_0, .slice A1_1 l1_1.length c1_1]] w fun e w' => e = .returned (.bool r) ∧ Below w.heap.size w w' := by
 have HRT_ := Aside0.mk hr_
 clear hr_
 have HAW_ := Aside0.mk haw_
 clear haw_
 have hu24 := Try.underlying24
 have HR0_1 := Aside0.mk hr0_1
 have HC0_1 := Aside0.mk hc0_1
 clear hr0_1 hc0_1
 have HO1_1 := Aside0.mk (show Kd.V (Kd.int .u32) 47 w w.heap.size (fun k_ => (P1_1_ k_ ∨ w.heap.size ≤ k_)) (.slice A1_1 l1_1.length c1_1) l1_1 from Kd.V_mono hs1_1 (fun k_ hk => .inl hk))
 have HB := Aside0.mk (Below.refl w.heap.size w)
 have H : ((peloruslaw02_awake.f k).bind fun t525 => ((peloruslaw02_Few.f a0_0 l0_1).bind fun t526 => ((peloruslaw02_Few.f a1_0 l1_1).bind fun t527 => (if t525 = true then (if t526 = true then (peloruslaw02_WholeBack.j0 k t525 (!t527) a0_0 l0_1 a1_0 l1_1) else (peloruslaw02_WholeBack.j0 k t525 true a0_0 l0_1 a1_0 l1_1)) else (peloruslaw02_WholeBack.j0 k t525 true a0_0 l0_1 a1_0 l1_1))))) = some r := h
 clear h
 replace H := Option.bind_eq_some_iff.mp H
 obtain ⟨t525, A30, H⟩ := H
 (try dsimp only at H)
 have A3 := Aside0.mk A30
 clear A30
 replace H := Option.bind_eq_some_iff.mp H
 obtain ⟨t526, A40, H⟩ := H
 (try dsimp only at H)
 have A4 := Aside0.mk A40
 clear A40
 replace H := Option.bind_eq_some_iff.mp H
 obtain ⟨t527, A50, H⟩ := H
 (try dsimp only at H)
 have A5 := Aside0.mk A50
 clear A50
 have HC6 := Aside0.mk H
 clear H
 go_enter Try.func5, Try.ntmps5
 go_upto_region 4 with (first | ((with_reducible refine gate_dst (N := 2) rfl ?_); refine bx_ 2 #[.bool a0_0, .slice A0_1 l0_1.length c0_1] 24 ?_; intro gb523 hg w7 hbox hb; have n0_ := Aside0.mk (Kd.V_below (Kd.V_elderB (by (with_reducible repeat (first | apply Kd.V_alloc | apply Kd.V_drewN | apply Kd.V_drew)); exact HO1_1.out) gb523 (Nat.le_of_eq hg.symm)) hb); have n1_ := bq_ HB hb; have n2_ := Aside0.mk (hbox); have n3_ := ge_ hg HB; have n4_ := ge_ hg HB; clear HO1_1; clear HB; have HO1_1 := n0_; have HB := n1_; have BK523 := n2_; have GW523 := n3_; have GE523 := n4_; clear n0_ n1_ n2_ n3_ n4_; clear hb hbox hg) | ((with_reducible refine gate_dst (N := 3) rfl ?_); refine bx_ 3 #[.bool a1_0, .slice A1_1 l1_1.length c1_1] 24 ?_; intro gb524 hg w8 hbox hb; have n0_ := Aside0.mk (Kd.V_below (Kd.V_elderB (by (with_reducible repeat (first | apply Kd.V_alloc | apply Kd.V_drewN | apply Kd.V_drew)); exact HO1_1.out) gb524 (Nat.le_of_eq hg.symm)) hb); have n1_ := kq_ BK523 hb; have n2_ := bq_ HB hb; have n3_ := Aside0.mk (hbox); have n4_ := ge_ hg HB; have n5_ := ge_ hg HB; have n6_ := nb_ hg BK523; have n7_ := nc_ hg BK523; clear HO1_1; clear BK523; clear HB; have HO1_1 := n0_; have BK523 := n1_; have HB := n2_; have BK524 := n3_; have GW524 := n4_; have GE524 := n5_; have NB523_524 := n6_; have NB524_523 := n7_; clear n0_ n1_ n2_ n3_ n4_ n5_ n6_ n7_; clear hb hbox hg) | ((with_reducible refine gate_callee (f := 9) rfl ?_); refine gl_ (some 13) Try.func9 #[] ?_; (with_reducible refine (peloruslaw02_awake.calls k  t525 _ (HAW_.out _ A3.out) A3.out).mono ?_); rintro e w9 ⟨rfl, hb⟩; refine ⟨_, rfl, ?_⟩; have n0_ := Aside0.mk (Kd.V_below (by (with_reducible repeat (first | apply Kd.V_alloc | apply Kd.V_drewN | apply Kd.V_drew)); exact HO1_1.out) hb); have n1_ := kq_ BK523 hb; have n2_ := kq_ BK524 hb; have n3_ := bq_ HB hb; clear HO1_1; clear BK523; clear BK524; clear HB; have HO1_1 := n0_; have BK523 := n1_; have BK524 := n2_; have HB := n3_; clear n0_ n1_ n2_ n3_; (try clear hb); (try clear hb2); (try clear hk); (try clear hi); have hnb10 := NB523_524.out; have hnc10 := NB524_523.out; obtain ⟨hcz11_0, hcz11_1, hfz11_0, hfz11_1⟩ := c2_ BK523) | ((with_reducible refine gate_callee (f := 10) rfl ?_); refine gl_ (some 15) Try.func10 #[.agg #[.bool a0_0, .slice A0_1 l0_1.length c0_1]] ?_; (with_reducible refine (peloruslaw02_Few.calls a0_0 _ _ l0_1 t526 _ ?side1 ?side2 A4.out).mono ?_); (case side1 => exact kc_ (Kd.C_below HR0_1.out HB.out)); (case side2 => exact HC0_1.out); rintro e w12 ⟨rfl, hb⟩; refine ⟨_, rfl, ?_⟩; have n0_ := Aside0.mk (Kd.V_below (by (with_reducible repeat (first | apply Kd.V_alloc | apply Kd.V_drewN | apply Kd.V_drew)); exact HO1_1.out) hb); have n1_ := kq_ BK523 hb; have n2_ := kq_ BK524 hb; have n3_ := bq_ HB hb; clear HO1_1; clear BK523; clear BK524; clear HB; have HO1_1 := n0_; have BK523 := n1_; have BK524 := n2_; have HB := n3_; clear n0_ n1_ n2_ n3_; (try clear hb); (try clear hb2); (try clear hk); (try clear hi); obtain ⟨hcz13_0, hcz13_1, hfz13_0, hfz13_1⟩ := c2_ BK524) | ((with_reducible refine gate_callee (f := 10) rfl ?_); refine gl_ (some 17) Try.func10 #[.agg #[.bool a1_0, .slice A1_1 l1_1.length c1_1]] ?_; (with_reducible refine (peloruslaw02_Few.calls a1_0 _ _ l1_1 t527 _ ?side1 ?side2 A5.out).mono ?_); (case side1 => exact kc_ (Kd.V_reads' HO1_1.out).2.2); (case side2 => exact (Kd.V_reads' HO1_1.out).2.1); rintro e w14 ⟨rfl, hb⟩; refine ⟨_, rfl, ?_⟩; have n0_ := Aside0.mk (Kd.V_below (by (with_reducible repeat (first | apply Kd.V_alloc | apply Kd.V_drewN | apply Kd.V_drew)); exact HO1_1.out) hb); have n1_ := kq_ BK523 hb; have n2_ := kq_ BK524 hb; have n3_ := bq_ HB hb; clear HO1_1; clear BK523; clear BK524; clear HB; have HO1_1 := n0_; have BK523 := n1_; have BK524 := n2_; have HB := n3_; clear n0_ n1_ n2_ n3_; (try clear hb); (try clear hb2); (try clear hk); (try clear hi)))
 (try simp only [Act.put, List.setIfInBounds_toArray, List.set_cons_zero, List.set_cons_succ])
 go_cut [27] (fun v27 wc => ∃ (kq : Nat) (x27_5 : Bool), v27 = .bool x27_5 ∧ Aside0 (peloruslaw02_WholeBack.j0 kq t525 x27_5 a0_0 l0_1 a1_0 l1_1 = some r) ∧ Aside0 (kq ≤ k) ∧ Aside0 (Kd.V (Kd.int .u32) 47 wc w.heap.size (fun k_ => (P1_1_ k_ ∨ w.heap.size ≤ k_) ∧ k_ ≠ gb523 ∧ k_ ≠ gb524) (.slice A1_1 l1_1.length c1_1) l1_1) ∧ Aside0 (wc.heap[gb523]? = some (.cells #[.bool a0_0, (.slice A0_1 l0_1.length c0_1)] 24 (0, 0))) ∧ Aside0 (wc.heap[gb524]? = some (.cells #[.bool a1_0, (.slice A1_1 l1_1.length c1_1)] 24 (0, 0))) ∧ Aside0 (Below w.heap.size w wc))
 case first =>
  have H := HC6.out
  clear HC6
  by_cases c15 : t525 = true
  ·subst c15
   have H1 : (if t526 = true then (peloruslaw02_WholeBack.j0 k true (!t527) a0_0 l0_1 a1_0 l1_1) else (peloruslaw02_WholeBack.j0 k true true a0_0 l0_1 a1_0 l1_1)) = some r := by rw [if_pos rfl] at H; exact H
   clear H
   have H := H1
   clear H1
   by_cases c16 : t526 = true
   ·subst c16
    have H1 : (peloruslaw02_WholeBack.j0 k true (!t527) a0_0 l0_1 a1_0 l1_1) = some r := by rw [if_pos rfl] at H; exact H
    clear H
    have H := H1
    clear H1
    have H' := Aside0.mk H
    clear H
    go_wp2
    go_meet
    case rel => exact ⟨_, (!t527), (by first | rfl | (simp; done) | (simp [*]; done)), H', ⟨by first | omega | exact Nat.le_refl _⟩, ⟨by (with_reducible repeat (first | apply Kd.V_alloc | apply Kd.V_drewN | apply Kd.V_drew)); exact Kd.V_mono HO1_1.out (fun _ hk => by first | exact ⟨hk.1.1, ⟨hk.1.2, hk.2⟩⟩ | simp [hk])⟩, ⟨kb_ BK523.out⟩, ⟨kb_ BK524.out⟩, ⟨bw_ HB.out⟩⟩
   ·replace c16 := Bool.eq_false_iff.mpr c16
    subst c16
    have H1 : (peloruslaw02_WholeBack.j0 k true true a0_0 l0_1 a1_0 l1_1) = some r := by rw [if_neg (show ¬ (false = true) by decide)] at H; exact H
    clear H
    have H := H1
    clear H1
    have H' := Aside0.mk H
    clear H
    go_wp2
    go_meet
    case rel => exact ⟨_, (true), (by first | rfl | (simp; done) | (simp [*]; done)), H', ⟨by first | omega | exact Nat.le_refl _⟩, ⟨by (with_reducible repeat (first | apply Kd.V_alloc | apply Kd.V_drewN | apply Kd.V_drew)); exact Kd.V_mono HO1_1.out (fun _ hk => by first | exact ⟨hk.1.1, ⟨hk.1.2, hk.2⟩⟩ | simp [hk])⟩, ⟨kb_ BK523.out⟩, ⟨kb_ BK524.out⟩, ⟨bw_ HB.out⟩⟩
  ·replace c15 := Bool.eq_false_iff.mpr c15
   subst c15
   have H1 : (peloruslaw02_WholeBack.j0 k false true a0_0 l0_1 a1_0 l1_1) = some r := by rw [if_neg (show ¬ (false = true) by decide)] at H; exact H
   clear H
   have H := H1
   clear H1
   have H' := Aside0.mk H
   clear H
   go_wp2
   go_meet
   case rel => exact ⟨_, (true), (by first | rfl | (simp; done) | (simp [*]; done)), H', ⟨by first | omega | exact Nat.le_refl _⟩, ⟨by (with_reducible repeat (first | apply Kd.V_alloc | apply Kd.V_drewN | apply Kd.V_drew)); exact Kd.V_mono HO1_1.out (fun _ hk => by first | exact ⟨hk.1.1, ⟨hk.1.2, hk.2⟩⟩ | simp [hk])⟩, ⟨kb_ BK523.out⟩, ⟨kb_ BK524.out⟩, ⟨bw_ HB.out⟩⟩
 case rest =>
  clear HC6
  try clear c1
  try clear p2
  try clear c5
  try clear c9
  try clear c10
  try clear c15
  try clear c16
  try clear hcz11_0 hcz11_1
  try clear hcz13_0 hcz13_1
  try clear hfz11_0 hfz11_1
  try clear hfz13_0 hfz13_1
  obtain ⟨kq, x27_5, rfl, HA, HJ5, HO_525001, BK523, BK524, HB⟩ := hcut
  cases kq with
  | zero => exact absurd HA.out (by simp [peloruslaw02_WholeBack.j0])
  | succ kj5 =>
   have H := HA.out
   clear HA
   simp only [peloruslaw02_WholeBack.j0] at H
   by_cases c17 : x27_5 = true
   ·subst c17
    have H1 : (some t525) = some r := by rw [if_pos rfl] at H; exact H
    clear H
    have H := H1
    clear H1
    obtain rfl := Option.some.inj H
    go_wp2
    go_ret
    exact ⟨rf_, bw_ HB.out⟩
   ·replace c17 := Bool.eq_false_iff.mpr c17
    subst c17
    have H1 : ((whole_Div.f kj5 a0_0 l0_1 a1_0 l1_1).bind fun bt528 => (if bt528.2.2.2.2 = true then ((whole_Sign.f kj5 bt528.2.2.1 bt528.2.2.2.1).bind fun t542 => ((whole_Cmp.f kj5 bt528.2.2.1 bt528.2.2.2.1 a1_0 l1_1).bind fun t543 => ((whole_Mul.f kj5 (([(⟨bt528.1, bt528.2.1⟩ : S24), (⟨a1_0, l1_1⟩ : S24)] : List (S24)))).bind fun bt547 => ((whole_Add.f kj5 bt547.1 bt547.2 bt528.2.2.1 bt528.2.2.2.1).bind fun bt551 => ((whole_Same.f kj5 bt551.1 bt551.2 a0_0 l0_1).bind fun t555 => (if t555 = true then (if t542 = 0 then (some true) else ((whole_Sign.f kj5 a1_0 l1_1).bind fun t556 => (if t542 = t556 then (some (t543 == (wrap64 (-t542)))) else (some false)))) else (some false))))))) else ((whole_Sign.f kj5 a1_0 l1_1).bind fun t539 => (if t539 = 0 then ((whole_Sign.f kj5 bt528.1 bt528.2.1).bind fun t540 => (if t540 = 0 then ((whole_Sign.f kj5 bt528.2.2.1 bt528.2.2.2.1).bind fun t541 => (some (t541 == 0))) else (some false))) else (some false))))) = some r := by rw [if_neg (show ¬ (false = true) by decide)] at H; exact H
    clear H
    have H := H1
    clear H1
    replace H := Option.bind_eq_some_iff.mp H
    obtain ⟨⟨t528, t529, t532, t533, t536⟩, A180, H⟩ := H
    (try dsimp only at H)
    have A18 := Aside0.mk A180
    clear A180
    by_cases c19 : t536 = true
    ·subst c19
     have H1 : ((whole_Sign.f kj5 t532 t533).bind fun t542 => ((whole_Cmp.f kj5 t532 t533 a1_0 l1_1).bind fun t543 => ((whole_Mul.f kj5 (([(⟨t528, t529⟩ : S24), (⟨a1_0, l1_1⟩ : S24)] : List (S24)))).bind fun bt547 => ((whole_Add.f kj5 bt547.1 bt547.2 t532 t533).bind fun bt551 => ((whole_Same.f kj5 bt551.1 bt551.2 a0_0 l0_1).bind fun t555 => (if t555 = true then (if t542 = 0 then (some true) else ((whole_Sign.f kj5 a1_0 l1_1).bind fun t556 => (if t542 = t556 then (some (t543 == (wrap64 (-t542)))) else (some false)))) else (some false))))))) = some r := by rw [if_pos rfl] at H; exact H
     clear H
     have H := H1
     clear H1
     replace H := Option.bind_eq_some_iff.mp H
     obtain ⟨t542, A200, H⟩ := H
     (try dsimp only at H)
     have A20 := Aside0.mk A200
     clear A200
     replace H := Option.bind_eq_some_iff.mp H
     obtain ⟨t543, A210, H⟩ := H
     (try dsimp only at H)
     have A21 := Aside0.mk A210
     clear A210
     obtain ⟨y544, hy544⟩ : ∃ y_ : List (S24), y_ = (([(⟨t528, t529⟩ : S24), (⟨a1_0, l1_1⟩ : S24)] : List (S24))) := ⟨_, rfl⟩
     replace H : ((whole_Mul.f kj5 y544).bind fun bt547 => ((whole_Add.f kj5 bt547.1 bt547.2 t532 t533).bind fun bt551 => ((whole_Same.f kj5 bt551.1 bt551.2 a0_0 l0_1).bind fun t555 => (if t555 = true then (if t542 = 0 then (some true) else ((whole_Sign.f kj5 a1_0 l1_1).bind fun t556 => (if t542 = t556 then (some (t543 == (wrap64 (-t542)))) else (some false)))) else (some false))))) = some r := by first | (rw [hy544]; with_reducible exact H) | (have H2_ := (Option.bind_some _ _).symm.trans H; rw [hy544]; with_reducible exact H2_) | (have H2_ := (Option.bind_some _ _).symm.trans H; with_reducible exact H2_) | with_reducible exact H | (rw [hy544]; exact H) | exact H
     have Ny544 := Aside0.mk hy544
     clear hy544
     replace H := Option.bind_eq_some_iff.mp H
     obtain ⟨⟨t547, t548⟩, A220, H⟩ := H
     (try dsimp only at H)
     have A22 := Aside0.mk A220
     clear A220
     replace H := Option.bind_eq_some_iff.mp H
     obtain ⟨⟨t551, t552⟩, A230, H⟩ := H
     (try dsimp only at H)
     have A23 := Aside0.mk A230
     clear A230
     replace H := Option.bind_eq_some_iff.mp H
     obtain ⟨t555, A240, H⟩ := H
     (try dsimp only at H)
     have A24 := Aside0.mk A240
     clear A240
     by_cases c25 : t555 = true
     ·subst c25
      have H1 : (if t542 = 0 then (some true) else ((whole_Sign.f kj5 a1_0 l1_1).bind fun t556 => (if t542 = t556 then (some (t543 == (wrap64 (-t542)))) else (some false)))) = some r := by rw [if_pos rfl] at H; exact H
      clear H
      have H := H1
      clear H1
      by_cases c26 : t542 = 0
      ·rw [if_pos c26] at H
       have c26b0 : (t542 == 0) = true := beq_iff_eq.mpr c26
       have c26b1 : (t542 != 0) = false := bne_eq_false_iff_eq.mpr c26
       clear c26
       obtain rfl := Option.some.inj H
       have hnb27 := NB523_524.out
       have hnc27 := NB524_523.out
       obtain ⟨hcz28_0, hcz28_1, hfz28_0, hfz28_1⟩ := c2_ BK523
       obtain ⟨hcz29_0, hcz29_1, hfz29_0, hfz29_1⟩ := c2_ BK524
       try go_wp2_with (first | ((with_reducible refine gate_callee (f := 11) rfl ?_); refine gl_ (some 32) Try.func11 #[.agg #[.bool a0_0, .slice A0_1 l0_1.length c0_1], .agg #[.bool a1_0, .slice A1_1 l1_1.length c1_1]] ?_; (with_reducible refine (whole_Div.calls kj5 a0_0 _ _ l0_1 a1_0 _ _ l1_1 t528 t529 t532 t533 true _ ?side1 ?side2 ?side3 ?side4 A18.out).mono ?_); (case side1 => exact kc_ (Kd.C_below HR0_1.out HB.out)); (case side2 => exact HC0_1.out); (case side3 => exact kc_ (Kd.V_reads' HO_525001.out).2.2); (case side4 => exact (Kd.V_reads' HO_525001.out).2.1); rintro e w30 ⟨v530, v534, rfl, ho0, ho1, hb⟩; refine ⟨_, rfl, ?_⟩; have n0_ := Aside0.mk (Kd.V_mono (Kd.V_told (Kd.V_told (Kd.V_old (by (with_reducible repeat (first | apply Kd.V_alloc | apply Kd.V_drewN | apply Kd.V_drew)); exact HO_525001.out) hb) (Kd.R_base ho0)) (Kd.R_base ho1)) (fun _ h_ => h_.1)); have n1_ := Aside0.mk (Kd.R_lower (Kd.R_newM (M := fun k_ => (w.heap.size ≤ k_)) ho0 (below_size (bw_ HB.out)) (fun k_ h_ => h_)) (below_size (bw_ HB.out))); have n2_ := Aside0.mk (Kd.R_lower (Kd.R_newM (M := fun k_ => (w.heap.size ≤ k_)) ho1 (below_size (bw_ HB.out)) (fun k_ h_ => h_)) (below_size (bw_ HB.out))); have n3_ := kq_ BK523 hb; have n4_ := kq_ BK524 hb; have n5_ := bq_ HB hb; clear HO_525001; clear BK523; clear BK524; clear HB; have HO_525001 := n0_; have HO531 := n1_; have HO535 := n2_; have BK523 := n3_; have BK524 := n4_; have HB := n5_; clear n0_ n1_ n2_ n3_ n4_ n5_; (try clear hb); (try clear hb2); (try clear hk); (try clear hi); (try clear ho0); (try clear ho1)) | ((with_reducible refine gate_dst (N := 8) rfl ?_); refine bx_ 8 #[.bool false, .slice none 0 0] 24 ?_; intro gb537 hg w31 hbox hb; have n0_ := Aside0.mk (Kd.V_below (Kd.V_elderB (by (with_reducible repeat (first | apply Kd.V_alloc | apply Kd.V_drewN | apply Kd.V_drew)); exact HO_525001.out) gb537 (Nat.le_of_eq hg.symm)) hb); have n1_ := Aside0.mk (Kd.R_below (kr_ HO531.out) hb); have n2_ := Aside0.mk (Kd.R_below (kr_ HO535.out) hb); have n3_ := kq_ BK523 hb; have n4_ := kq_ BK524 hb; have n5_ := bq_ HB hb; have n6_ := Aside0.mk (hbox); have n7_ := ge_ hg HB; have n8_ := ge_ hg HB; have n9_ := nb_ hg BK523; have n10_ := nc_ hg BK523; have n11_ := nb_ hg BK524; have n12_ := nc_ hg BK524; clear HO_525001; clear HO531; clear HO535; clear BK523; clear BK524; clear HB; have HO_525001 := n0_; have HO531 := n1_; have HO535 := n2_; have BK523 := n3_; have BK524 := n4_; have HB := n5_; have BK537 := n6_; have GW537 := n7_; have GE537 := n8_; have NB523_537 := n9_; have NB537_523 := n10_; have NB524_537 := n11_; have NB537_524 := n12_; clear n0_ n1_ n2_ n3_ n4_ n5_ n6_ n7_ n8_ n9_ n10_ n11_ n12_; clear hb hbox hg) | ((with_reducible refine gate_dst (N := 9) rfl ?_); refine bx_ 9 #[.bool false, .slice none 0 0] 24 ?_; intro gb538 hg w32 hbox hb; have n0_ := Aside0.mk (Kd.V_below (Kd.V_elderB (by (with_reducible repeat (first | apply Kd.V_alloc | apply Kd.V_drewN | apply Kd.V_drew)); exact HO_525001.out) gb538 (Nat.le_of_eq hg.symm)) hb); have n1_ := Aside0.mk (Kd.R_below (kr_ HO531.out) hb); have n2_ := Aside0.mk (Kd.R_below (kr_ HO535.out) hb); have n3_ := kq_ BK523 hb; have n4_ := kq_ BK524 hb; have n5_ := kq_ BK537 hb; have n6_ := bq_ HB hb; have n7_ := Aside0.mk (hbox); have n8_ := ge_ hg HB; have n9_ := ge_ hg HB; have n10_ := nb_ hg BK523; have n11_ := nc_ hg BK523; have n12_ := nb_ hg BK524; have n13_ := nc_ hg BK524; have n14_ := nb_ hg BK537; have n15_ := nc_ hg BK537; clear HO_525001; clear HO531; clear HO535; clear BK523; clear BK524; clear BK537; clear HB; have HO_525001 := n0_; have HO531 := n1_; have HO535 := n2_; have BK523 := n3_; have BK524 := n4_; have BK537 := n5_; have HB := n6_; have BK538 := n7_; have GW538 := n8_; have GE538 := n9_; have NB523_538 := n10_; have NB538_523 := n11_; have NB524_538 := n12_; have NB538_524 := n13_; have NB537_538 := n14_; have NB538_537 := n15_; clear n0_ n1_ n2_ n3_ n4_ n5_ n6_ n7_ n8_ n9_ n10_ n11_ n12_ n13_ n14_ n15_; clear hb hbox hg; have hnb33 := NB537_523.out; have hnc33 := NB523_537.out; have hnb34 := NB537_524.out; have hnc34 := NB524_537.out; have hnb35 := NB537_538.out; have hnc35 := NB538_537.out; obtain ⟨hcz36_0, hcz36_1, hfz36_0, hfz36_1⟩ := c2_ BK537; obtain ⟨Ao37, co37, eo37⟩ := Kd.R_slice HO531.out; subst eo37; have hnb38 := NB538_523.out; have hnc38 := NB523_538.out; have hnb39 := NB538_524.out; have hnc39 := NB524_538.out; obtain ⟨hcz40_0, hcz40_1, hfz40_0, hfz40_1⟩ := c2_ BK538; obtain ⟨Ao41, co41, eo41⟩ := Kd.R_slice HO535.out; subst eo41) | ((with_reducible refine gate_callee (f := 24) rfl ?_); refine gl_ (some 52) Try.func24 #[.agg #[.bool t532, .slice Ao41 t533.length co41]] ?_; (with_reducible refine (whole_Sign.calls kj5 t532 _ _ t533 t542 _ ?side1 ?side2 A20.out).mono ?_); (case side1 => refine (Kd.R_reads' (e := 47) (base := w.heap.size) (ok := fun k_ => ((w.heap.size ≤ k_) ∧ some k_ ≠ (.slice Ao37 t529.length co37 : Value).ownBlock)) (n := t533.length) (c := co41) ?_).2.2; exact (kr_ ((Kd.R_mono (Kd.R_mono (Kd.R_far (p := ⟨gb538, 1, none⟩) (Kd.R_far (p := ⟨gb538, 0, none⟩) (Kd.R_far (p := ⟨gb537, 1, none⟩) (Kd.R_far (p := ⟨gb537, 0, none⟩) (Kd.R_types (Kd.R_types HO535.out BK537.out (by decide)) BK538.out (by decide)) (fun _ hk => hk.1.2) (.bool t528)) (fun _ hk => hk.1.2) (.slice Ao37 t529.length co37)) (fun _ hk => hk.2) (.bool t532)) (fun _ hk => hk.2) (.slice Ao41 t533.length co41)) (fun _ h_ => h_.1)) (fun _ h_ => h_.1))))); (case side2 => exact (Kd.R_reads' HO535.out).2.1); rintro e w42 ⟨rfl, hb⟩; refine ⟨_, rfl, ?_⟩; have n0_ := Aside0.mk (Kd.V_below (by (with_reducible repeat (first | apply Kd.V_alloc | apply Kd.V_drewN | apply Kd.V_drew)); exact (Kd.V_mono (Kd.V_mono (Kd.V_far (p := ⟨gb538, 1, none⟩) (Kd.V_far (p := ⟨gb538, 0, none⟩) (Kd.V_far (p := ⟨gb537, 1, none⟩) (Kd.V_far (p := ⟨gb537, 0, none⟩) (Kd.V_mono (Kd.V_mono HO_525001.out (fun k_ hk => (⟨hk, hk.1.2⟩ : _ ∧ k_ ≠ gb537))) (fun k_ hk => (⟨hk, hk.1.2⟩ : _ ∧ k_ ≠ gb538))) (fun _ hk => hk.1.2) (.bool t528)) (fun _ hk => hk.1.2) (.slice Ao37 t529.length co37)) (fun _ hk => hk.2) (.bool t532)) (fun _ hk => hk.2) (.slice Ao41 t533.length co41)) (fun _ h_ => h_.1)) (fun _ h_ => h_.1))) hb); have n1_ := Aside0.mk (Kd.R_below (kr_ ((Kd.R_mono (Kd.R_mono (Kd.R_far (p := ⟨gb538, 1, none⟩) (Kd.R_far (p := ⟨gb538, 0, none⟩) (Kd.R_far (p := ⟨gb537, 1, none⟩) (Kd.R_far (p := ⟨gb537, 0, none⟩) (Kd.R_types (Kd.R_types HO531.out BK537.out (by decide)) BK538.out (by decide)) (fun _ hk => hk.1.2) (.bool t528)) (fun _ hk => hk.1.2) (.slice Ao37 t529.length co37)) (fun _ hk => hk.2) (.bool t532)) (fun _ hk => hk.2) (.slice Ao41 t533.length co41)) (fun _ h_ => h_.1)) (fun _ h_ => h_.1)))) hb); have n2_ := Aside0.mk (Kd.R_below (kr_ ((Kd.R_mono (Kd.R_mono (Kd.R_far (p := ⟨gb538, 1, none⟩) (Kd.R_far (p := ⟨gb538, 0, none⟩) (Kd.R_far (p := ⟨gb537, 1, none⟩) (Kd.R_far (p := ⟨gb537, 0, none⟩) (Kd.R_types (Kd.R_types HO535.out BK537.out (by decide)) BK538.out (by decide)) (fun _ hk => hk.1.2) (.bool t528)) (fun _ hk => hk.1.2) (.slice Ao37 t529.length co37)) (fun _ hk => hk.2) (.bool t532)) (fun _ hk => hk.2) (.slice Ao41 t533.length co41)) (fun _ h_ => h_.1)) (fun _ h_ => h_.1)))) hb); have n3_ := Aside0.mk (blk_below (g := gb523) (o := .cells #[.bool a0_0, .slice A0_1 l0_1.length c0_1] 24 (0, 0)) (by refine kb_ ?_; refine bf_ NB523_538 ?_; refine bf_ NB523_538 ?_; refine bf_ NB523_537 ?_; refine bf_ NB523_537 ?_; exact BK523.out) hb); have n4_ := Aside0.mk (blk_below (g := gb524) (o := .cells #[.bool a1_0, .slice A1_1 l1_1.length c1_1] 24 (0, 0)) (by refine kb_ ?_; refine bf_ NB524_538 ?_; refine bf_ NB524_538 ?_; refine bf_ NB524_537 ?_; refine bf_ NB524_537 ?_; exact BK524.out) hb); have n5_ := Aside0.mk (blk_below (g := gb537) (o := .cells #[.bool t528, .slice Ao37 t529.length co37] 24 (0, 0)) (by refine kb_ ?_; refine bf_ NB537_538 ?_; refine bf_ NB537_538 ?_; refine bp_ #[.bool t528, .slice none 0 0] 1 ?_; refine bp_ #[.bool false, .slice none 0 0] 0 ?_; exact BK537.out) hb); have n6_ := Aside0.mk (blk_below (g := gb538) (o := .cells #[.bool t532, .slice Ao41 t533.length co41] 24 (0, 0)) (by refine kb_ ?_; refine bp_ #[.bool t532, .slice none 0 0] 1 ?_; refine bp_ #[.bool false, .slice none 0 0] 0 ?_; refine bf_ NB538_537 ?_; refine bf_ NB538_537 ?_; exact BK538.out) hb); have n7_ := bq_ HB hb; clear HO_525001; clear HO531; clear HO535; clear BK523; clear BK524; clear BK537; clear BK538; clear HB; have HO_525001 := n0_; have HO531 := n1_; have HO535 := n2_; have BK523 := n3_; have BK524 := n4_; have BK537 := n5_; have BK538 := n6_; have HB := n7_; clear n0_ n1_ n2_ n3_ n4_ n5_ n6_ n7_; (try clear hb); (try clear hb2); (try clear hk); (try clear hi); obtain ⟨hcz43_0, hcz43_1, hfz43_0, hfz43_1⟩ := c2_ BK538; obtain ⟨hcz44_0, hcz44_1, hfz44_0, hfz44_1⟩ := c2_ BK524) | ((with_reducible refine gate_callee (f := 25) rfl ?_); refine gl_ (some 55) Try.func25 #[.agg #[.bool t532, .slice Ao41 t533.length co41], .agg #[.bool a1_0, .slice A1_1 l1_1.length c1_1]] ?_; (with_reducible refine (whole_Cmp.calls kj5 t532 _ _ t533 a1_0 _ _ l1_1 t543 _ ?side1 ?side2 ?side3 ?side4 A21.out).mono ?_); (case side1 => exact kc_ (Kd.R_reads' HO535.out).2.2); (case side2 => exact (Kd.R_reads' HO535.out).2.1); (case side3 => exact kc_ (Kd.V_reads' HO_525001.out).2.2); (case side4 => exact (Kd.V_reads' HO_525001.out).2.1); rintro e w45 ⟨rfl, hb⟩; refine ⟨_, rfl, ?_⟩; have n0_ := Aside0.mk (Kd.V_below (by (with_reducible repeat (first | apply Kd.V_alloc | apply Kd.V_drewN | apply Kd.V_drew)); exact HO_525001.out) hb); have n1_ := Aside0.mk (Kd.R_below (kr_ HO531.out) hb); have n2_ := Aside0.mk (Kd.R_below (kr_ HO535.out) hb); have n3_ := kq_ BK523 hb; have n4_ := kq_ BK524 hb; have n5_ := kq_ BK537 hb; have n6_ := kq_ BK538 hb; have n7_ := bq_ HB hb; clear HO_525001; clear HO531; clear HO535; clear BK523; clear BK524; clear BK537; clear BK538; clear HB; have HO_525001 := n0_; have HO531 := n1_; have HO535 := n2_; have BK523 := n3_; have BK524 := n4_; have BK537 := n5_; have BK538 := n6_; have HB := n7_; clear n0_ n1_ n2_ n3_ n4_ n5_ n6_ n7_; (try clear hb); (try clear hb2); (try clear hk); (try clear hi)))
       replace HO_525001 := Aside0.mk (Kd.V_drew HO_525001.out)
       replace HO531 := Aside0.mk (Kd.R_drew HO531.out)
       replace HO535 := Aside0.mk (Kd.R_drew HO535.out)
       replace BK523 := Aside0.mk (blk_drew BK523.out)
       replace BK524 := Aside0.mk (blk_drew BK524.out)
       replace BK537 := Aside0.mk (blk_drew BK537.out)
       replace BK538 := Aside0.mk (blk_drew BK538.out)
       replace HB := Aside0.mk (below_drew1 HB.out)
       refine start_ (n := 29) (S := fun w' => w'.cell? ⟨gb537, 0, none⟩ = some (.bool t528) ∧ w'.cell? ⟨gb537, 1, none⟩ = some (.slice Ao37 t529.length co37) ∧ w'.cell? ⟨gb524, 0, none⟩ = some (.bool a1_0) ∧ w'.cell? ⟨gb524, 1, none⟩ = some (.slice A1_1 l1_1.length c1_1) ∧ w'.cell? ⟨gb538, 0, none⟩ = some (.bool t532) ∧ w'.cell? ⟨gb538, 1, none⟩ = some (.slice Ao41 t533.length co41) ∧ w'.cell? ⟨gb523, 0, none⟩ = some (.bool a0_0) ∧ w'.cell? ⟨gb523, 1, none⟩ = some (.slice A0_1 l0_1.length c0_1)) (ds := []) #[false, false, false, false, false, false, false, false, false, false, false, false, false, false, false, false, false, false, false, false, false, false, false, false, false, false, false, false, false] (by kernel_rfl) rfl rfl ⟨(blk_cell BK537.out 0).trans rfl, (blk_cell BK537.out 1).trans rfl, (blk_cell BK524.out 0).trans rfl, (blk_cell BK524.out 1).trans rfl, (blk_cell BK538.out 0).trans rfl, (blk_cell BK538.out 1).trans rfl, (blk_cell BK523.out 0).trans rfl, (blk_cell BK523.out 1).trans rfl⟩ (fun hHeld => ?_); refine with_tabW peloruslaw02_WholeBack.tab11 peloruslaw02_WholeBack.bits11 (fun HT_ HW_ => ?_)
       generalize w45.drew = w46 at HO_525001 HO531 HO535 BK523 BK524 BK537 BK538 HB hHeld ⊢
       refine take_ (i := 0) (N := some 56) (v := ?_) (a' := ?_) #[true, false, false, false, false, false, false, false, false, false, false, false, false, false, false, false, false, false, false, false, false, false, false, false, false, false, false, false, false] rfl rfl (take_ofW HT_.out HW_.out (by kernel_rfl)) (fun _ _ _ h => h) (Or.inl ⟨by rfl, ?_⟩) hHeld ?_ ?_
       rotate_left
       ·rintro w' ⟨s0, s1, s2, s3, s4, s5, s6, s7⟩
        go_simp
        with_reducible rfl
       rotate_left
       ·exact pt_
       refine take_ (i := 1) (N := some 57) (v := ?_) (a' := ?_) #[true, true, false, false, false, false, false, false, false, false, false, false, false, false, false, false, false, false, false, false, false, false, false, false, false, false, false, false, false] rfl rfl (take_ofW HT_.out HW_.out (by kernel_rfl)) (fun _ _ _ h => h) (Or.inl ⟨by rfl, ?_⟩) hHeld ?_ ?_
       rotate_left
       ·rintro w' ⟨s0, s1, s2, s3, s4, s5, s6, s7⟩
        go_simp
        with_reducible rfl
       rotate_left
       ·exact pt_
       refine take_ (i := 4) (N := some 60) (v := ?_) (a' := ?_) #[true, true, false, false, true, false, false, false, false, false, false, false, false, false, false, false, false, false, false, false, false, false, false, false, false, false, false, false, false] rfl rfl (take_ofW HT_.out HW_.out (by kernel_rfl)) (fun _ _ _ h => h) (Or.inl ⟨by rfl, ?_⟩) hHeld ?_ ?_
       rotate_left
       ·rintro w' ⟨s0, s1, s2, s3, s4, s5, s6, s7⟩
        go_simp
        with_reducible rfl
       rotate_left
       ·exact pt_
       refine take_ (i := 6) (N := some 62) (v := ?_) (a' := ?_) #[true, true, false, false, true, false, true, false, false, false, false, false, false, false, false, false, false, false, false, false, false, false, false, false, false, false, false, false, false] rfl rfl (take_ofW HT_.out HW_.out (by kernel_rfl)) (fun _ _ _ h => h) (Or.inl ⟨by rfl, ?_⟩) hHeld ?_ ?_
       rotate_left
       ·rintro w' ⟨s0, s1, s2, s3, s4, s5, s6, s7⟩
        go_simp
        with_reducible rfl
       rotate_left
       ·exact pt_
       refine one_ (i := 2) (N := some 58) #[true, true, true, false, true, false, true, false, false, false, false, false, false, false, false, false, false, false, false, false, false, false, false, false, false, false, false, false, false] rfl rfl (one_of HT_.out (by kernel_rfl)) (by decide) (fun K hK => ?_)
       refine Kd.N_lit_step k24 _ 24 ?hg (N' := 58) ?hd (xs := ([(⟨t528, t529⟩ : S24), (⟨a1_0, l1_1⟩ : S24)] : List (S24))) (inner := [.bool t528, .slice Ao37 t529.length co37, .bool a1_0, .slice A1_1 l1_1.length c1_1]) (ok := (fun k_ => (P1_1_ k_ ∨ w.heap.size ≤ k_) ∧ some k_ ≠ (.slice Ao41 t533.length co41 : Value).ownBlock ∧ k_ ≠ gb523 ∧ k_ ≠ gb524 ∧ k_ ≠ gb537 ∧ k_ ≠ gb538)) (okp := (fun k_ => (P1_1_ k_ ∨ w.heap.size ≤ k_) ∧ some k_ ≠ (.slice Ao41 t533.length co41 : Value).ownBlock ∧ k_ ≠ gb523 ∧ k_ ≠ gb524 ∧ k_ ≠ gb537 ∧ k_ ≠ gb538)) ?hr ?hp (fun _ hk => hk) ((show ∀ k_, w46.heap.size ≤ k_ → (fun k_ => (P1_1_ k_ ∨ w.heap.size ≤ k_) ∧ some k_ ≠ (.slice Ao41 t533.length co41 : Value).ownBlock ∧ k_ ≠ gb523 ∧ k_ ≠ gb524 ∧ k_ ≠ gb537 ∧ k_ ≠ gb538) k_ from fun k_ hk => ⟨(.inr (Nat.le_trans (below_size (bw_ HB.out)) hk)), Kd.fresh' (Kd.R_lt (kr_ HO535.out)) k_ hk, Kd.freshB (g := gb523) (o := .cells #[.bool a0_0, .slice A0_1 l0_1.length c0_1] 24 (0, 0)) (kb_ BK523.out) k_ hk, Kd.freshB (g := gb524) (o := .cells #[.bool a1_0, .slice A1_1 l1_1.length c1_1] 24 (0, 0)) (kb_ BK524.out) k_ hk, Kd.freshB (g := gb537) (o := .cells #[.bool t528, .slice Ao37 t529.length co37] 24 (0, 0)) (kb_ BK537.out) k_ hk, Kd.freshB (g := gb538) (o := .cells #[.bool t532, .slice Ao41 t533.length co41] 24 (0, 0)) (kb_ BK538.out) k_ hk⟩) _ (Nat.le_refl _)) (Below.refl _ _) (Nat.le_refl _) (by simp) ?_; (case hd => rfl); (case hg => rfl); (case hr => first | (go_simp; done) | (go_simp; rfl)); (case hp => exact (Reps.c2 (show Kd.FK k24 _ _ (⟨t528, t529⟩ : S24) [.bool t528, .slice Ao37 t529.length co37] from (k24_mkF _ _ (⟨t528, t529⟩ : S24) (Kd.R_reads' (Kd.R_mono (ok' := (fun k_ => (P1_1_ k_ ∨ w.heap.size ≤ k_) ∧ some k_ ≠ (.slice Ao41 t533.length co41 : Value).ownBlock ∧ k_ ≠ gb523 ∧ k_ ≠ gb524 ∧ k_ ≠ gb537 ∧ k_ ≠ gb538)) (Kd.R_types (Kd.R_types (Kd.R_types (Kd.R_types (HO531.out) BK523.out (by decide)) BK524.out (by decide)) BK537.out (by decide)) BK538.out (by decide)) (fun k_ hk => ⟨(.inr (hk.1.1.1.1.1)), ⟨hk.1.1.1.1.2, ⟨hk.1.1.1.2, ⟨hk.1.1.2, ⟨hk.1.2, hk.2⟩⟩⟩⟩⟩))).2.1 (Kd.R_F (Kd.R_mono (ok' := (fun k_ => (P1_1_ k_ ∨ w.heap.size ≤ k_) ∧ some k_ ≠ (.slice Ao41 t533.length co41 : Value).ownBlock ∧ k_ ≠ gb523 ∧ k_ ≠ gb524 ∧ k_ ≠ gb537 ∧ k_ ≠ gb538)) (Kd.R_types (Kd.R_types (Kd.R_types (Kd.R_types (HO531.out) BK523.out (by decide)) BK524.out (by decide)) BK537.out (by decide)) BK538.out (by decide)) (fun k_ hk => ⟨(.inr (hk.1.1.1.1.1)), ⟨hk.1.1.1.1.2, ⟨hk.1.1.1.2, ⟨hk.1.1.2, ⟨hk.1.2, hk.2⟩⟩⟩⟩⟩))))) (Reps.c2 (show Kd.FK k24 _ _ (⟨a1_0, l1_1⟩ : S24) [.bool a1_0, .slice A1_1 l1_1.length c1_1] from (k24_mkF _ _ (⟨a1_0, l1_1⟩ : S24) (Kd.V_reads' (Kd.V_mono (ok' := (fun k_ => (P1_1_ k_ ∨ w.heap.size ≤ k_) ∧ some k_ ≠ (.slice Ao41 t533.length co41 : Value).ownBlock ∧ k_ ≠ gb523 ∧ k_ ≠ gb524 ∧ k_ ≠ gb537 ∧ k_ ≠ gb538)) (HO_525001.out) (fun k_ hk => ⟨hk.1.1.1.1.1, ⟨hk.1.1.2, ⟨hk.1.1.1.1.2.1, ⟨hk.1.1.1.1.2.2, ⟨hk.1.2, hk.2⟩⟩⟩⟩⟩))).2.1 (Kd.V_F (Kd.V_mono (ok' := (fun k_ => (P1_1_ k_ ∨ w.heap.size ≤ k_) ∧ some k_ ≠ (.slice Ao41 t533.length co41 : Value).ownBlock ∧ k_ ≠ gb523 ∧ k_ ≠ gb524 ∧ k_ ≠ gb537 ∧ k_ ≠ gb538)) (HO_525001.out) (fun k_ hk => ⟨hk.1.1.1.1.1, ⟨hk.1.1.2, ⟨hk.1.1.1.1.2.1, ⟨hk.1.1.1.1.2.2, ⟨hk.1.2, hk.2⟩⟩⟩⟩⟩))))) (Reps.none _ _))))
       intro v545 w47 ho48 hb hg_ hnew_
       clear hg_ hnew_
       (first | rw [← Ny544.out] at ho48 | (simp only [Int.reduceToNat] at ho48; rw [← Ny544.out] at ho48))
       have n0_ := Aside0.mk (Kd.V_elder' (by (with_reducible repeat (first | apply Kd.V_alloc | apply Kd.V_drewN | apply Kd.V_drew)); exact HO_525001.out) (Kd.N_base ho48) hb)
       have n1_ := Aside0.mk (Kd.R_below (kr_ HO535.out) hb)
       have n2_ := Aside0.mk (Kd.N_lower ho48 (below_size (bw_ HB.out)))
       have n3_ := kq_ BK523 hb
       have n4_ := kq_ BK524 hb
       have n5_ := kq_ BK537 hb
       have n6_ := kq_ BK538 hb
       have n7_ := bq_ HB hb
       clear HO_525001
       clear HO535
       clear BK523
       clear BK524
       clear BK537
       clear BK538
       clear HB
       clear HO531
       have HO_525001 := n0_
       have HO535 := n1_
       have HO546 := n2_
       have BK523 := n3_
       have BK524 := n4_
       have BK537 := n5_
       have BK538 := n6_
       have HB := n7_
       clear n0_ n1_ n2_ n3_ n4_ n5_ n6_ n7_
       clear hb ho48
       obtain ⟨Ao49, co49, eo49⟩ := Kd.N_slice HO546.out
       (first | subst eo49 | (injection eo49 with f1_ f2_ f3_; have f4_ := f1_.symm; have f5_ := f3_.symm; clear f1_ f2_ f3_; subst f4_; subst f5_))
       refine hK.out _ _ ⟨(blk_cell BK537.out 0).trans rfl, (blk_cell BK537.out 1).trans rfl, (blk_cell BK524.out 0).trans rfl, (blk_cell BK524.out 1).trans rfl, (blk_cell BK538.out 0).trans rfl, (blk_cell BK538.out 1).trans rfl, (blk_cell BK523.out 0).trans rfl, (blk_cell BK523.out 1).trans rfl⟩ (fun hHeld => ?_)
       clear hK K
       refine norm_ (a' := ?_) ?_ ?_
       rotate_left
       ·show Act.put _ (some 58) _ = _
        exact pt_
       refine one_ (i := 3) (N := some 59) #[true, true, true, true, true, false, true, false, false, false, false, false, false, false, false, false, false, false, false, false, false, false, false, false, false, false, false, false, false] rfl rfl (one_of HT_.out (by kernel_rfl)) (by decide) (fun K hK => ?_)
       refine gs_ Try.func14 #[.slice Ao49 y544.length co49] ?_
       with_reducible refine (whole_Mul.calls kj5 _ _ y544 t547 t548 _ ?side1 ?side2 A22.out).mono ?_
       (case side1 => exact kc_ (Kd.N_reads' HO546.out).2.2)
       (case side2 => exact (Kd.N_reads' HO546.out).2.1)
       rintro e w50 ⟨v549, rfl, ho0, hb⟩
       refine ⟨_, rfl, ?_⟩
       have n0_ := Aside0.mk (Kd.V_elder' (by (with_reducible repeat (first | apply Kd.V_alloc | apply Kd.V_drewN | apply Kd.V_drew)); exact HO_525001.out) (Kd.R_base ho0) hb)
       have n1_ := Aside0.mk (Kd.R_elder' (kr_ HO535.out) (Kd.R_base ho0) hb)
       have n2_ := Aside0.mk (Kd.N_elder' (by (with_reducible repeat (first | apply Kd.N_alloc | apply Kd.N_drewN | apply Kd.N_drew)); exact HO546.out) (Kd.R_base ho0) hb)
       have n3_ := Aside0.mk (Kd.R_lower (Kd.R_new' (Kd.R_newM (M := fun k_ => (w.heap.size ≤ k_)) ho0 (below_size (bw_ HB.out)) (fun k_ h_ => h_)) (Kd.R_lt (kr_ HO535.out))) (below_size (bw_ HB.out)))
       have n4_ := kq_ BK523 hb
       have n5_ := kq_ BK524 hb
       have n6_ := kq_ BK537 hb
       have n7_ := kq_ BK538 hb
       have n8_ := bq_ HB hb
       clear HO_525001
       clear HO535
       clear HO546
       clear BK523
       clear BK524
       clear BK537
       clear BK538
       clear HB
       have HO_525001 := n0_
       have HO535 := n1_
       have HO546 := n2_
       have HO550 := n3_
       have BK523 := n4_
       have BK524 := n5_
       have BK537 := n6_
       have BK538 := n7_
       have HB := n8_
       clear n0_ n1_ n2_ n3_ n4_ n5_ n6_ n7_ n8_
       (try clear hb)
       (try clear hb2)
       (try clear hk)
       (try clear hi)
       (try clear ho0)
       obtain ⟨Ao51, co51, eo51⟩ := Kd.R_slice HO550.out
       (first | subst eo51 | (injection eo51 with f1_ f2_ f3_; have f4_ := f1_.symm; have f5_ := f3_.symm; clear f1_ f2_ f3_; subst f4_; subst f5_))
       refine hK.out _ _ ⟨(blk_cell BK537.out 0).trans rfl, (blk_cell BK537.out 1).trans rfl, (blk_cell BK524.out 0).trans rfl, (blk_cell BK524.out 1).trans rfl, (blk_cell BK538.out 0).trans rfl, (blk_cell BK538.out 1).trans rfl, (blk_cell BK523.out 0).trans rfl, (blk_cell BK523.out 1).trans rfl⟩ (fun hHeld => ?_)
       clear hK K
       refine norm_ (a' := ?_) ?_ ?_
       rotate_left
       ·show Act.put _ (some 59) _ = _
        exact pt_
       refine one_ (i := 5) (N := some 61) #[true, true, true, true, true, true, true, false, false, false, false, false, false, false, false, false, false, false, false, false, false, false, false, false, false, false, false, false, false] rfl rfl (one_of HT_.out (by kernel_rfl)) (by decide) (fun K hK => ?_)
       refine gs_ Try.func27 #[.agg #[.bool t547, .slice Ao51 t548.length co51], .agg #[.bool t532, .slice Ao41 t533.length co41]] ?_
       with_reducible refine (whole_Add.calls kj5 t547 _ _ t548 t532 _ _ t533 t551 t552 _ ?side1 ?side2 ?side3 ?side4 A23.out).mono ?_
       (case side1 => exact kc_ (Kd.R_reads' HO550.out).2.2)
       (case side2 => exact (Kd.R_reads' HO550.out).2.1)
       (case side3 => exact kc_ (Kd.R_reads' HO535.out).2.2)
       (case side4 => exact (Kd.R_reads' HO535.out).2.1)
       rintro e w52 ⟨v553, rfl, ho0, hb⟩
       refine ⟨_, rfl, ?_⟩
       have n0_ := Aside0.mk (Kd.V_elder' (by (with_reducible repeat (first | apply Kd.V_alloc | apply Kd.V_drewN | apply Kd.V_drew)); exact HO_525001.out) (Kd.R_base ho0) hb)
       have n1_ := Aside0.mk (Kd.R_elder' (kr_ HO535.out) (Kd.R_base ho0) hb)
       have n2_ := Aside0.mk (Kd.N_elder' (by (with_reducible repeat (first | apply Kd.N_alloc | apply Kd.N_drewN | apply Kd.N_drew)); exact HO546.out) (Kd.R_base ho0) hb)
       have n3_ := Aside0.mk (Kd.R_elder' (kr_ HO550.out) (Kd.R_base ho0) hb)
       have n4_ := Aside0.mk (Kd.R_lower (Kd.R_new' (Kd.R_new' (Kd.R_newM (M := fun k_ => (w.heap.size ≤ k_)) ho0 (below_size (bw_ HB.out)) (fun k_ h_ => h_)) (Kd.R_lt (kr_ HO535.out))) (Kd.R_lt (kr_ HO550.out))) (below_size (bw_ HB.out)))
       have n5_ := kq_ BK523 hb
       have n6_ := kq_ BK524 hb
       have n7_ := kq_ BK537 hb
       have n8_ := kq_ BK538 hb
       have n9_ := bq_ HB hb
       clear HO_525001
       clear HO535
       clear HO546
       clear HO550
       clear BK523
       clear BK524
       clear BK537
       clear BK538
       clear HB
       have HO_525001 := n0_
       have HO535 := n1_
       have HO546 := n2_
       have HO550 := n3_
       have HO554 := n4_
       have BK523 := n5_
       have BK524 := n6_
       have BK537 := n7_
       have BK538 := n8_
       have HB := n9_
       clear n0_ n1_ n2_ n3_ n4_ n5_ n6_ n7_ n8_ n9_
       (try clear hb)
       (try clear hb2)
       (try clear hk)
       (try clear hi)
       (try clear ho0)
       obtain ⟨Ao53, co53, eo53⟩ := Kd.R_slice HO554.out
       (first | subst eo53 | (injection eo53 with f1_ f2_ f3_; have f4_ := f1_.symm; have f5_ := f3_.symm; clear f1_ f2_ f3_; subst f4_; subst f5_))
       refine hK.out _ _ ⟨(blk_cell BK537.out 0).trans rfl, (blk_cell BK537.out 1).trans rfl, (blk_cell BK524.out 0).trans rfl, (blk_cell BK524.out 1).trans rfl, (blk_cell BK538.out 0).trans rfl, (blk_cell BK538.out 1).trans rfl, (blk_cell BK523.out 0).trans rfl, (blk_cell BK523.out 1).trans rfl⟩ (fun hHeld => ?_)
       clear hK K
       refine norm_ (a' := ?_) ?_ ?_
       rotate_left
       ·show Act.put _ (some 61) _ = _
        exact pt_
       refine one_ (i := 7) (N := some 63) #[true, true, true, true, true, true, true, true, false, false, false, false, false, false, false, false, false, false, false, false, false, false, false, false, false, false, false, false, false] rfl rfl (one_of HT_.out (by kernel_rfl)) (by decide) (fun K hK => ?_)
       refine gs_ Try.func26 #[.agg #[.bool t551, .slice Ao53 t552.length co53], .agg #[.bool a0_0, .slice A0_1 l0_1.length c0_1]] ?_
       with_reducible refine (whole_Same.calls kj5 t551 _ _ t552 a0_0 _ _ l0_1 true _ ?side1 ?side2 ?side3 ?side4 A24.out).mono ?_
       (case side1 => exact kc_ (Kd.R_reads' HO554.out).2.2)
       (case side2 => exact (Kd.R_reads' HO554.out).2.1)
       (case side3 => exact kc_ (Kd.C_below HR0_1.out HB.out))
       (case side4 => exact HC0_1.out)
       rintro e w54 ⟨rfl, hb⟩
       refine ⟨_, rfl, ?_⟩
       have n0_ := Aside0.mk (Kd.V_below (by (with_reducible repeat (first | apply Kd.V_alloc | apply Kd.V_drewN | apply Kd.V_drew)); exact HO_525001.out) hb)
       have n1_ := Aside0.mk (Kd.R_below (kr_ HO535.out) hb)
       have n2_ := Aside0.mk (Kd.N_below (by (with_reducible repeat (first | apply Kd.N_alloc | apply Kd.N_drewN | apply Kd.N_drew)); exact HO546.out) hb)
       have n3_ := Aside0.mk (Kd.R_below (kr_ HO550.out) hb)
       have n4_ := Aside0.mk (Kd.R_below (kr_ HO554.out) hb)
       have n5_ := kq_ BK523 hb
       have n6_ := kq_ BK524 hb
       have n7_ := kq_ BK537 hb
       have n8_ := kq_ BK538 hb
       have n9_ := bq_ HB hb
       clear HO_525001
       clear HO535
       clear HO546
       clear HO550
       clear HO554
       clear BK523
       clear BK524
       clear BK537
       clear BK538
       clear HB
       have HO_525001 := n0_
       have HO535 := n1_
       have HO546 := n2_
       have HO550 := n3_
       have HO554 := n4_
       have BK523 := n5_
       have BK524 := n6_
       have BK537 := n7_
       have BK538 := n8_
       have HB := n9_
       clear n0_ n1_ n2_ n3_ n4_ n5_ n6_ n7_ n8_ n9_
       (try clear hb)
       (try clear hb2)
       (try clear hk)
       (try clear hi)
       refine hK.out _ _ ⟨(blk_cell BK537.out 0).trans rfl, (blk_cell BK537.out 1).trans rfl, (blk_cell BK524.out 0).trans rfl, (blk_cell BK524.out 1).trans rfl, (blk_cell BK538.out 0).trans rfl, (blk_cell BK538.out 1).trans rfl, (blk_cell BK523.out 0).trans rfl, (blk_cell BK523.out 1).trans rfl⟩ (fun hHeld => ?_)
       clear hK K
       refine norm_ (a' := ?_) ?_ ?_
       rotate_left
       ·show Act.put _ (some 63) _ = _
        exact pt_
       refine pure_ (i := 8) (N := some 64) (v := ?_) (a' := ?_) #[true, true, true, true, true, true, true, true, true, false, false, false, false, false, false, false, false, false, false, false, false, false, false, false, false, false, false, false, false] rfl rfl (any_of HT_.out (by kernel_rfl)) (fun _ _ _ h => h) (Or.inl ⟨by rfl, ?_⟩) ?_ ?_
       rotate_left
       ·intro w'
        go_simp
        with_reducible rfl
       rotate_left
       ·exact pt_
       refine pure_ (i := 9) (N := some 65) (v := ?_) (a' := ?_) #[true, true, true, true, true, true, true, true, true, true, false, false, false, false, false, false, false, false, false, false, false, false, false, false, false, false, false, false, false] rfl rfl (any_of HT_.out (by kernel_rfl)) (fun _ _ _ h => h) (Or.inl ⟨by rfl, ?_⟩) ?_ ?_
       rotate_left
       ·intro w'
        go_simp
        with_reducible rfl
       rotate_left
       ·exact pt_
       refine pure_ (i := 10) (N := some 66) (v := ?_) (a' := ?_) #[true, true, true, true, true, true, true, true, true, true, true, false, false, false, false, false, false, false, false, false, false, false, false, false, false, false, false, false, false] rfl rfl (any_of HT_.out (by kernel_rfl)) (fun _ _ _ h => h) (Or.inl ⟨by rfl, ?_⟩) ?_ ?_
       rotate_left
       ·intro w'
        go_simp
        with_reducible rfl
       rotate_left
       ·exact pt_
       refine pure_ (i := 11) (N := some 67) (v := ?_) (a' := ?_) #[true, true, true, true, true, true, true, true, true, true, true, true, false, false, false, false, false, false, false, false, false, false, false, false, false, false, false, false, false] rfl rfl (any_of HT_.out (by kernel_rfl)) (fun _ _ _ h => h) (Or.inl ⟨by rfl, ?_⟩) ?_ ?_
       rotate_left
       ·intro w'
        go_simp
        with_reducible rfl
       rotate_left
       ·exact pt_
       refine pure_ (i := 12) (N := some 68) (v := undef) (a' := ?_) #[true, true, true, true, true, true, true, true, true, true, true, true, true, false, false, false, false, false, false, false, false, false, false, false, false, false, false, false, false] rfl rfl (any_of HT_.out (by kernel_rfl)) (fun _ _ _ h => h) (Or.inr ⟨by rfl, rfl⟩) ?_ ?_
       rotate_left
       ·exact pt_
       refine pure_ (i := 13) (N := some 69) (v := undef) (a' := ?_) #[true, true, true, true, true, true, true, true, true, true, true, true, true, true, false, false, false, false, false, false, false, false, false, false, false, false, false, false, false] rfl rfl (any_of HT_.out (by kernel_rfl)) (fun _ _ _ h => h) (Or.inr ⟨by rfl, rfl⟩) ?_ ?_
       rotate_left
       ·exact pt_
       refine pure_ (i := 14) (N := some 70) (v := undef) (a' := ?_) #[true, true, true, true, true, true, true, true, true, true, true, true, true, true, true, false, false, false, false, false, false, false, false, false, false, false, false, false, false] rfl rfl (any_of HT_.out (by kernel_rfl)) (fun _ _ _ h => h) (Or.inr ⟨by rfl, rfl⟩) ?_ ?_
       rotate_left
       ·exact pt_
       refine pure_ (i := 15) (N := some 71) (v := undef) (a' := ?_) #[true, true, true, true, true, true, true, true, true, true, true, true, true, true, true, true, false, false, false, false, false, false, false, false, false, false, false, false, false] rfl rfl (any_of HT_.out (by kernel_rfl)) (fun _ _ _ h => h) (Or.inr ⟨by rfl, rfl⟩) ?_ ?_
       rotate_left
       ·exact pt_
       refine pure_ (i := 16) (N := some 72) (v := ?_) (a' := ?_) #[true, true, true, true, true, true, true, true, true, true, true, true, true, true, true, true, true, false, false, false, false, false, false, false, false, false, false, false, false] rfl rfl (any_of HT_.out (by kernel_rfl)) (fun _ _ _ h => h) (Or.inl ⟨by rfl, ?_⟩) ?_ ?_
       rotate_left
       ·intro w'
        go_simp
        with_reducible rfl
       rotate_left
       ·exact pt_
       refine pure_ (i := 17) (N := some 73) (v := ?_) (a' := ?_) #[true, true, true, true, true, true, true, true, true, true, true, true, true, true, true, true, true, true, false, false, false, false, false, false, false, false, false, false, false] rfl rfl (any_of HT_.out (by kernel_rfl)) (fun _ _ _ h => h) (Or.inl ⟨by rfl, ?_⟩) ?_ ?_
       rotate_left
       ·intro w'
        go_simp
        with_reducible rfl
       rotate_left
       ·exact pt_
       refine pure_ (i := 18) (N := some 74) (v := ?_) (a' := ?_) #[true, true, true, true, true, true, true, true, true, true, true, true, true, true, true, true, true, true, true, false, false, false, false, false, false, false, false, false, false] rfl rfl (any_of HT_.out (by kernel_rfl)) (fun _ _ _ h => h) (Or.inl ⟨by rfl, ?_⟩) ?_ ?_
       rotate_left
       ·intro w'
        go_simp
        with_reducible rfl
       rotate_left
       ·exact pt_
       refine pure_ (i := 19) (N := some 75) (v := ?_) (a' := ?_) #[true, true, true, true, true, true, true, true, true, true, true, true, true, true, true, true, true, true, true, true, false, false, false, false, false, false, false, false, false] rfl rfl (any_of HT_.out (by kernel_rfl)) (fun _ _ _ h => h) (Or.inl ⟨by rfl, ?_⟩) ?_ ?_
       rotate_left
       ·intro w'
        go_simp
        with_reducible rfl
       rotate_left
       ·exact pt_
       refine pure_ (i := 20) (N := some 76) (v := ?_) (a' := ?_) #[true, true, true, true, true, true, true, true, true, true, true, true, true, true, true, true, true, true, true, true, true, false, false, false, false, false, false, false, false] rfl rfl (any_of HT_.out (by kernel_rfl)) (fun _ _ _ h => h) (Or.inl ⟨by rfl, ?_⟩) ?_ ?_
       rotate_left
       ·intro w'
        go_simp
        with_reducible rfl
       rotate_left
       ·exact pt_
       refine pure_ (i := 21) (N := some 77) (v := ?_) (a' := ?_) #[true, true, true, true, true, true, true, true, true, true, true, true, true, true, true, true, true, true, true, true, true, true, false, false, false, false, false, false, false] rfl rfl (any_of HT_.out (by kernel_rfl)) (fun _ _ _ h => h) (Or.inl ⟨by rfl, ?_⟩) ?_ ?_
       rotate_left
       ·intro w'
        go_simp
        with_reducible rfl
       rotate_left
       ·exact pt_
       refine pure_ (i := 22) (N := some 78) (v := undef) (a' := ?_) #[true, true, true, true, true, true, true, true, true, true, true, true, true, true, true, true, true, true, true, true, true, true, true, false, false, false, false, false, false] rfl rfl (any_of HT_.out (by kernel_rfl)) (fun _ _ _ h => h) (Or.inr ⟨by rfl, rfl⟩) ?_ ?_
       rotate_left
       ·exact pt_
       refine pure_ (i := 23) (N := some 79) (v := undef) (a' := ?_) #[true, true, true, true, true, true, true, true, true, true, true, true, true, true, true, true, true, true, true, true, true, true, true, true, false, false, false, false, false] rfl rfl (any_of HT_.out (by kernel_rfl)) (fun _ _ _ h => h) (Or.inr ⟨by rfl, rfl⟩) ?_ ?_
       rotate_left
       ·exact pt_
       refine pure_ (i := 24) (N := some 80) (v := undef) (a' := ?_) #[true, true, true, true, true, true, true, true, true, true, true, true, true, true, true, true, true, true, true, true, true, true, true, true, true, false, false, false, false] rfl rfl (any_of HT_.out (by kernel_rfl)) (fun _ _ _ h => h) (Or.inr ⟨by rfl, rfl⟩) ?_ ?_
       rotate_left
       ·exact pt_
       refine pure_ (i := 25) (N := some 81) (v := undef) (a' := ?_) #[true, true, true, true, true, true, true, true, true, true, true, true, true, true, true, true, true, true, true, true, true, true, true, true, true, true, false, false, false] rfl rfl (any_of HT_.out (by kernel_rfl)) (fun _ _ _ h => h) (Or.inr ⟨by rfl, rfl⟩) ?_ ?_
       rotate_left
       ·exact pt_
       refine pure_ (i := 26) (N := some 82) (v := ?_) (a' := ?_) #[true, true, true, true, true, true, true, true, true, true, true, true, true, true, true, true, true, true, true, true, true, true, true, true, true, true, true, false, false] rfl rfl (any_of HT_.out (by kernel_rfl)) (fun _ _ _ h => h) (Or.inl ⟨by rfl, ?_⟩) ?_ ?_
       rotate_left
       ·intro w'
        go_simp
        with_reducible rfl
       rotate_left
       ·exact pt_
       refine pure_ (i := 27) (N := some 83) (v := ?_) (a' := ?_) #[true, true, true, true, true, true, true, true, true, true, true, true, true, true, true, true, true, true, true, true, true, true, true, true, true, true, true, true, false] rfl rfl (any_of HT_.out (by kernel_rfl)) (fun _ _ _ h => h) (Or.inl ⟨by rfl, ?_⟩) ?_ ?_
       rotate_left
       ·intro w'
        go_simp
        with_reducible rfl
       rotate_left
       ·exact pt_
       refine pure_ (i := 28) (N := some 4) (v := ?_) (a' := ?_) #[true, true, true, true, true, true, true, true, true, true, true, true, true, true, true, true, true, true, true, true, true, true, true, true, true, true, true, true, true] rfl rfl (any_of HT_.out (by kernel_rfl)) (fun _ _ _ h => h) (Or.inl ⟨by rfl, ?_⟩) ?_ ?_
       rotate_left
       ·intro w'
        go_simp
        with_reducible rfl
       rotate_left
       ·exact pt_
       refine done_ (done_of HT_.out (by kernel_rfl)) ?_
       try go_wp2
       go_ret
       exact ⟨rf_, bw_ HB.out⟩
      ·rw [if_neg c26] at H
       have c26b0 : (t542 == 0) = false := beq_eq_false_iff_ne.mpr c26
       have c26b1 : (t542 != 0) = true := bne_iff_ne.mpr c26
       replace H := Option.bind_eq_some_iff.mp H
       obtain ⟨t556, A550, H⟩ := H
       (try dsimp only at H)
       have A55 := Aside0.mk A550
       clear A550
       by_cases c56 : t542 = t556
       ·rw [if_pos c56] at H
        have c56b0 : (t542 == t556) = true := beq_iff_eq.mpr c56
        have c56b1 : (t542 != t556) = false := bne_eq_false_iff_eq.mpr c56
        clear c56
        obtain rfl := Option.some.inj H
        have hnb57 := NB523_524.out
        have hnc57 := NB524_523.out
        obtain ⟨hcz58_0, hcz58_1, hfz58_0, hfz58_1⟩ := c2_ BK523
        obtain ⟨hcz59_0, hcz59_1, hfz59_0, hfz59_1⟩ := c2_ BK524
        try go_wp2_with (first | ((with_reducible refine gate_callee (f := 11) rfl ?_); refine gl_ (some 32) Try.func11 #[.agg #[.bool a0_0, .slice A0_1 l0_1.length c0_1], .agg #[.bool a1_0, .slice A1_1 l1_1.length c1_1]] ?_; (with_reducible refine (whole_Div.calls kj5 a0_0 _ _ l0_1 a1_0 _ _ l1_1 t528 t529 t532 t533 true _ ?side1 ?side2 ?side3 ?side4 A18.out).mono ?_); (case side1 => exact kc_ (Kd.C_below HR0_1.out HB.out)); (case side2 => exact HC0_1.out); (case side3 => exact kc_ (Kd.V_reads' HO_525001.out).2.2); (case side4 => exact (Kd.V_reads' HO_525001.out).2.1); rintro e w60 ⟨v530, v534, rfl, ho0, ho1, hb⟩; refine ⟨_, rfl, ?_⟩; have n0_ := Aside0.mk (Kd.V_mono (Kd.V_told (Kd.V_told (Kd.V_old (by (with_reducible repeat (first | apply Kd.V_alloc | apply Kd.V_drewN | apply Kd.V_drew)); exact HO_525001.out) hb) (Kd.R_base ho0)) (Kd.R_base ho1)) (fun _ h_ => h_.1)); have n1_ := Aside0.mk (Kd.R_lower (Kd.R_newM (M := fun k_ => (w.heap.size ≤ k_)) ho0 (below_size (bw_ HB.out)) (fun k_ h_ => h_)) (below_size (bw_ HB.out))); have n2_ := Aside0.mk (Kd.R_lower (Kd.R_newM (M := fun k_ => (w.heap.size ≤ k_)) ho1 (below_size (bw_ HB.out)) (fun k_ h_ => h_)) (below_size (bw_ HB.out))); have n3_ := kq_ BK523 hb; have n4_ := kq_ BK524 hb; have n5_ := bq_ HB hb; clear HO_525001; clear BK523; clear BK524; clear HB; have HO_525001 := n0_; have HO531 := n1_; have HO535 := n2_; have BK523 := n3_; have BK524 := n4_; have HB := n5_; clear n0_ n1_ n2_ n3_ n4_ n5_; (try clear hb); (try clear hb2); (try clear hk); (try clear hi); (try clear ho0); (try clear ho1)) | ((with_reducible refine gate_dst (N := 8) rfl ?_); refine bx_ 8 #[.bool false, .slice none 0 0] 24 ?_; intro gb537 hg w61 hbox hb; have n0_ := Aside0.mk (Kd.V_below (Kd.V_elderB (by (with_reducible repeat (first | apply Kd.V_alloc | apply Kd.V_drewN | apply Kd.V_drew)); exact HO_525001.out) gb537 (Nat.le_of_eq hg.symm)) hb); have n1_ := Aside0.mk (Kd.R_below (kr_ HO531.out) hb); have n2_ := Aside0.mk (Kd.R_below (kr_ HO535.out) hb); have n3_ := kq_ BK523 hb; have n4_ := kq_ BK524 hb; have n5_ := bq_ HB hb; have n6_ := Aside0.mk (hbox); have n7_ := ge_ hg HB; have n8_ := ge_ hg HB; have n9_ := nb_ hg BK523; have n10_ := nc_ hg BK523; have n11_ := nb_ hg BK524; have n12_ := nc_ hg BK524; clear HO_525001; clear HO531; clear HO535; clear BK523; clear BK524; clear HB; have HO_525001 := n0_; have HO531 := n1_; have HO535 := n2_; have BK523 := n3_; have BK524 := n4_; have HB := n5_; have BK537 := n6_; have GW537 := n7_; have GE537 := n8_; have NB523_537 := n9_; have NB537_523 := n10_; have NB524_537 := n11_; have NB537_524 := n12_; clear n0_ n1_ n2_ n3_ n4_ n5_ n6_ n7_ n8_ n9_ n10_ n11_ n12_; clear hb hbox hg) | ((with_reducible refine gate_dst (N := 9) rfl ?_); refine bx_ 9 #[.bool false, .slice none 0 0] 24 ?_; intro gb538 hg w62 hbox hb; have n0_ := Aside0.mk (Kd.V_below (Kd.V_elderB (by (with_reducible repeat (first | apply Kd.V_alloc | apply Kd.V_drewN | apply Kd.V_drew)); exact HO_525001.out) gb538 (Nat.le_of_eq hg.symm)) hb); have n1_ := Aside0.mk (Kd.R_below (kr_ HO531.out) hb); have n2_ := Aside0.mk (Kd.R_below (kr_ HO535.out) hb); have n3_ := kq_ BK523 hb; have n4_ := kq_ BK524 hb; have n5_ := kq_ BK537 hb; have n6_ := bq_ HB hb; have n7_ := Aside0.mk (hbox); have n8_ := ge_ hg HB; have n9_ := ge_ hg HB; have n10_ := nb_ hg BK523; have n11_ := nc_ hg BK523; have n12_ := nb_ hg BK524; have n13_ := nc_ hg BK524; have n14_ := nb_ hg BK537; have n15_ := nc_ hg BK537; clear HO_525001; clear HO531; clear HO535; clear BK523; clear BK524; clear BK537; clear HB; have HO_525001 := n0_; have HO531 := n1_; have HO535 := n2_; have BK523 := n3_; have BK524 := n4_; have BK537 := n5_; have HB := n6_; have BK538 := n7_; have GW538 := n8_; have GE538 := n9_; have NB523_538 := n10_; have NB538_523 := n11_; have NB524_538 := n12_; have NB538_524 := n13_; have NB537_538 := n14_; have NB538_537 := n15_; clear n0_ n1_ n2_ n3_ n4_ n5_ n6_ n7_ n8_ n9_ n10_ n11_ n12_ n13_ n14_ n15_; clear hb hbox hg; have hnb63 := NB537_523.out; have hnc63 := NB523_537.out; have hnb64 := NB537_524.out; have hnc64 := NB524_537.out; have hnb65 := NB537_538.out; have hnc65 := NB538_537.out; obtain ⟨hcz66_0, hcz66_1, hfz66_0, hfz66_1⟩ := c2_ BK537; obtain ⟨Ao67, co67, eo67⟩ := Kd.R_slice HO531.out; subst eo67; have hnb68 := NB538_523.out; have hnc68 := NB523_538.out; have hnb69 := NB538_524.out; have hnc69 := NB524_538.out; obtain ⟨hcz70_0, hcz70_1, hfz70_0, hfz70_1⟩ := c2_ BK538; obtain ⟨Ao71, co71, eo71⟩ := Kd.R_slice HO535.out; subst eo71) | ((with_reducible refine gate_callee (f := 24) rfl ?_); refine gl_ (some 52) Try.func24 #[.agg #[.bool t532, .slice Ao71 t533.length co71]] ?_; (with_reducible refine (whole_Sign.calls kj5 t532 _ _ t533 t542 _ ?side1 ?side2 A20.out).mono ?_); (case side1 => refine (Kd.R_reads' (e := 47) (base := w.heap.size) (ok := fun k_ => ((w.heap.size ≤ k_) ∧ some k_ ≠ (.slice Ao67 t529.length co67 : Value).ownBlock)) (n := t533.length) (c := co71) ?_).2.2; exact (kr_ ((Kd.R_mono (Kd.R_mono (Kd.R_far (p := ⟨gb538, 1, none⟩) (Kd.R_far (p := ⟨gb538, 0, none⟩) (Kd.R_far (p := ⟨gb537, 1, none⟩) (Kd.R_far (p := ⟨gb537, 0, none⟩) (Kd.R_types (Kd.R_types HO535.out BK537.out (by decide)) BK538.out (by decide)) (fun _ hk => hk.1.2) (.bool t528)) (fun _ hk => hk.1.2) (.slice Ao67 t529.length co67)) (fun _ hk => hk.2) (.bool t532)) (fun _ hk => hk.2) (.slice Ao71 t533.length co71)) (fun _ h_ => h_.1)) (fun _ h_ => h_.1))))); (case side2 => exact (Kd.R_reads' HO535.out).2.1); rintro e w72 ⟨rfl, hb⟩; refine ⟨_, rfl, ?_⟩; have n0_ := Aside0.mk (Kd.V_below (by (with_reducible repeat (first | apply Kd.V_alloc | apply Kd.V_drewN | apply Kd.V_drew)); exact (Kd.V_mono (Kd.V_mono (Kd.V_far (p := ⟨gb538, 1, none⟩) (Kd.V_far (p := ⟨gb538, 0, none⟩) (Kd.V_far (p := ⟨gb537, 1, none⟩) (Kd.V_far (p := ⟨gb537, 0, none⟩) (Kd.V_mono (Kd.V_mono HO_525001.out (fun k_ hk => (⟨hk, hk.1.2⟩ : _ ∧ k_ ≠ gb537))) (fun k_ hk => (⟨hk, hk.1.2⟩ : _ ∧ k_ ≠ gb538))) (fun _ hk => hk.1.2) (.bool t528)) (fun _ hk => hk.1.2) (.slice Ao67 t529.length co67)) (fun _ hk => hk.2) (.bool t532)) (fun _ hk => hk.2) (.slice Ao71 t533.length co71)) (fun _ h_ => h_.1)) (fun _ h_ => h_.1))) hb); have n1_ := Aside0.mk (Kd.R_below (kr_ ((Kd.R_mono (Kd.R_mono (Kd.R_far (p := ⟨gb538, 1, none⟩) (Kd.R_far (p := ⟨gb538, 0, none⟩) (Kd.R_far (p := ⟨gb537, 1, none⟩) (Kd.R_far (p := ⟨gb537, 0, none⟩) (Kd.R_types (Kd.R_types HO531.out BK537.out (by decide)) BK538.out (by decide)) (fun _ hk => hk.1.2) (.bool t528)) (fun _ hk => hk.1.2) (.slice Ao67 t529.length co67)) (fun _ hk => hk.2) (.bool t532)) (fun _ hk => hk.2) (.slice Ao71 t533.length co71)) (fun _ h_ => h_.1)) (fun _ h_ => h_.1)))) hb); have n2_ := Aside0.mk (Kd.R_below (kr_ ((Kd.R_mono (Kd.R_mono (Kd.R_far (p := ⟨gb538, 1, none⟩) (Kd.R_far (p := ⟨gb538, 0, none⟩) (Kd.R_far (p := ⟨gb537, 1, none⟩) (Kd.R_far (p := ⟨gb537, 0, none⟩) (Kd.R_types (Kd.R_types HO535.out BK537.out (by decide)) BK538.out (by decide)) (fun _ hk => hk.1.2) (.bool t528)) (fun _ hk => hk.1.2) (.slice Ao67 t529.length co67)) (fun _ hk => hk.2) (.bool t532)) (fun _ hk => hk.2) (.slice Ao71 t533.length co71)) (fun _ h_ => h_.1)) (fun _ h_ => h_.1)))) hb); have n3_ := Aside0.mk (blk_below (g := gb523) (o := .cells #[.bool a0_0, .slice A0_1 l0_1.length c0_1] 24 (0, 0)) (by refine kb_ ?_; refine bf_ NB523_538 ?_; refine bf_ NB523_538 ?_; refine bf_ NB523_537 ?_; refine bf_ NB523_537 ?_; exact BK523.out) hb); have n4_ := Aside0.mk (blk_below (g := gb524) (o := .cells #[.bool a1_0, .slice A1_1 l1_1.length c1_1] 24 (0, 0)) (by refine kb_ ?_; refine bf_ NB524_538 ?_; refine bf_ NB524_538 ?_; refine bf_ NB524_537 ?_; refine bf_ NB524_537 ?_; exact BK524.out) hb); have n5_ := Aside0.mk (blk_below (g := gb537) (o := .cells #[.bool t528, .slice Ao67 t529.length co67] 24 (0, 0)) (by refine kb_ ?_; refine bf_ NB537_538 ?_; refine bf_ NB537_538 ?_; refine bp_ #[.bool t528, .slice none 0 0] 1 ?_; refine bp_ #[.bool false, .slice none 0 0] 0 ?_; exact BK537.out) hb); have n6_ := Aside0.mk (blk_below (g := gb538) (o := .cells #[.bool t532, .slice Ao71 t533.length co71] 24 (0, 0)) (by refine kb_ ?_; refine bp_ #[.bool t532, .slice none 0 0] 1 ?_; refine bp_ #[.bool false, .slice none 0 0] 0 ?_; refine bf_ NB538_537 ?_; refine bf_ NB538_537 ?_; exact BK538.out) hb); have n7_ := bq_ HB hb; clear HO_525001; clear HO531; clear HO535; clear BK523; clear BK524; clear BK537; clear BK538; clear HB; have HO_525001 := n0_; have HO531 := n1_; have HO535 := n2_; have BK523 := n3_; have BK524 := n4_; have BK537 := n5_; have BK538 := n6_; have HB := n7_; clear n0_ n1_ n2_ n3_ n4_ n5_ n6_ n7_; (try clear hb); (try clear hb2); (try clear hk); (try clear hi); obtain ⟨hcz73_0, hcz73_1, hfz73_0, hfz73_1⟩ := c2_ BK538; obtain ⟨hcz74_0, hcz74_1, hfz74_0, hfz74_1⟩ := c2_ BK524) | ((with_reducible refine gate_callee (f := 25) rfl ?_); refine gl_ (some 55) Try.func25 #[.agg #[.bool t532, .slice Ao71 t533.length co71], .agg #[.bool a1_0, .slice A1_1 l1_1.length c1_1]] ?_; (with_reducible refine (whole_Cmp.calls kj5 t532 _ _ t533 a1_0 _ _ l1_1 t543 _ ?side1 ?side2 ?side3 ?side4 A21.out).mono ?_); (case side1 => exact kc_ (Kd.R_reads' HO535.out).2.2); (case side2 => exact (Kd.R_reads' HO535.out).2.1); (case side3 => exact kc_ (Kd.V_reads' HO_525001.out).2.2); (case side4 => exact (Kd.V_reads' HO_525001.out).2.1); rintro e w75 ⟨rfl, hb⟩; refine ⟨_, rfl, ?_⟩; have n0_ := Aside0.mk (Kd.V_below (by (with_reducible repeat (first | apply Kd.V_alloc | apply Kd.V_drewN | apply Kd.V_drew)); exact HO_525001.out) hb); have n1_ := Aside0.mk (Kd.R_below (kr_ HO531.out) hb); have n2_ := Aside0.mk (Kd.R_below (kr_ HO535.out) hb); have n3_ := kq_ BK523 hb; have n4_ := kq_ BK524 hb; have n5_ := kq_ BK537 hb; have n6_ := kq_ BK538 hb; have n7_ := bq_ HB hb; clear HO_525001; clear HO531; clear HO535; clear BK523; clear BK524; clear BK537; clear BK538; clear HB; have HO_525001 := n0_; have HO531 := n1_; have HO535 := n2_; have BK523 := n3_; have BK524 := n4_; have BK537 := n5_; have BK538 := n6_; have HB := n7_; clear n0_ n1_ n2_ n3_ n4_ n5_ n6_ n7_; (try clear hb); (try clear hb2); (try clear hk); (try clear hi)))
        replace HO_525001 := Aside0.mk (Kd.V_drew HO_525001.out)
        replace HO531 := Aside0.mk (Kd.R_drew HO531.out)
        replace HO535 := Aside0.mk (Kd.R_drew HO535.out)
        replace BK523 := Aside0.mk (blk_drew BK523.out)
        replace BK524 := Aside0.mk (blk_drew BK524.out)
        replace BK537 := Aside0.mk (blk_drew BK537.out)
        replace BK538 := Aside0.mk (blk_drew BK538.out)
        replace HB := Aside0.mk (below_drew1 HB.out)
        refine start_ (n := 29) (S := fun w' => w'.cell? ⟨gb537, 0, none⟩ = some (.bool t528) ∧ w'.cell? ⟨gb537, 1, none⟩ = some (.slice Ao67 t529.length co67) ∧ w'.cell? ⟨gb524, 0, none⟩ = some (.bool a1_0) ∧ w'.cell? ⟨gb524, 1, none⟩ = some (.slice A1_1 l1_1.length c1_1) ∧ w'.cell? ⟨gb538, 0, none⟩ = some (.bool t532) ∧ w'.cell? ⟨gb538, 1, none⟩ = some (.slice Ao71 t533.length co71) ∧ w'.cell? ⟨gb523, 0, none⟩ = some (.bool a0_0) ∧ w'.cell? ⟨gb523, 1, none⟩ = some (.slice A0_1 l0_1.length c0_1)) (ds := []) #[false, false, false, false, false, false, false, false, false, false, false, false, false, false, false, false, false, false, false, false, false, false, false, false, false, false, false, false, false] (by kernel_rfl) rfl rfl ⟨(blk_cell BK537.out 0).trans rfl, (blk_cell BK537.out 1).trans rfl, (blk_cell BK524.out 0).trans rfl, (blk_cell BK524.out 1).trans rfl, (blk_cell BK538.out 0).trans rfl, (blk_cell BK538.out 1).trans rfl, (blk_cell BK523.out 0).trans rfl, (blk_cell BK523.out 1).trans rfl⟩ (fun hHeld => ?_); refine with_tabW peloruslaw02_WholeBack.tab11 peloruslaw02_WholeBack.bits11 (fun HT_ HW_ => ?_)
        generalize w75.drew = w76 at HO_525001 HO531 HO535 BK523 BK524 BK537 BK538 HB hHeld ⊢
        refine take_ (i := 0) (N := some 56) (v := ?_) (a' := ?_) #[true, false, false, false, false, false, false, false, false, false, false, false, false, false, false, false, false, false, false, false, false, false, false, false, false, false, false, false, false] rfl rfl (take_ofW HT_.out HW_.out (by kernel_rfl)) (fun _ _ _ h => h) (Or.inl ⟨by rfl, ?_⟩) hHeld ?_ ?_
        rotate_left
        ·rintro w' ⟨s0, s1, s2, s3, s4, s5, s6, s7⟩
         go_simp
         with_reducible rfl
        rotate_left
        ·exact pt_
        refine take_ (i := 1) (N := some 57) (v := ?_) (a' := ?_) #[true, true, false, false, false, false, false, false, false, false, false, false, false, false, false, false, false, false, false, false, false, false, false, false, false, false, false, false, false] rfl rfl (take_ofW HT_.out HW_.out (by kernel_rfl)) (fun _ _ _ h => h) (Or.inl ⟨by rfl, ?_⟩) hHeld ?_ ?_
        rotate_left
        ·rintro w' ⟨s0, s1, s2, s3, s4, s5, s6, s7⟩
         go_simp
         with_reducible rfl
        rotate_left
        ·exact pt_
        refine take_ (i := 4) (N := some 60) (v := ?_) (a' := ?_) #[true, true, false, false, true, false, false, false, false, false, false, false, false, false, false, false, false, false, false, false, false, false, false, false, false, false, false, false, false] rfl rfl (take_ofW HT_.out HW_.out (by kernel_rfl)) (fun _ _ _ h => h) (Or.inl ⟨by rfl, ?_⟩) hHeld ?_ ?_
        rotate_left
        ·rintro w' ⟨s0, s1, s2, s3, s4, s5, s6, s7⟩
         go_simp
         with_reducible rfl
        rotate_left
        ·exact pt_
        refine take_ (i := 6) (N := some 62) (v := ?_) (a' := ?_) #[true, true, false, false, true, false, true, false, false, false, false, false, false, false, false, false, false, false, false, false, false, false, false, false, false, false, false, false, false] rfl rfl (take_ofW HT_.out HW_.out (by kernel_rfl)) (fun _ _ _ h => h) (Or.inl ⟨by rfl, ?_⟩) hHeld ?_ ?_
        rotate_left
        ·rintro w' ⟨s0, s1, s2, s3, s4, s5, s6, s7⟩
         go_simp
         with_reducible rfl
        rotate_left
        ·exact pt_
        refine one_ (i := 2) (N := some 58) #[true, true, true, false, true, false, true, false, false, false, false, false, false, false, false, false, false, false, false, false, false, false, false, false, false, false, false, false, false] rfl rfl (one_of HT_.out (by kernel_rfl)) (by decide) (fun K hK => ?_)
        refine Kd.N_lit_step k24 _ 24 ?hg (N' := 58) ?hd (xs := ([(⟨t528, t529⟩ : S24), (⟨a1_0, l1_1⟩ : S24)] : List (S24))) (inner := [.bool t528, .slice Ao67 t529.length co67, .bool a1_0, .slice A1_1 l1_1.length c1_1]) (ok := (fun k_ => (P1_1_ k_ ∨ w.heap.size ≤ k_) ∧ some k_ ≠ (.slice Ao71 t533.length co71 : Value).ownBlock ∧ k_ ≠ gb523 ∧ k_ ≠ gb524 ∧ k_ ≠ gb537 ∧ k_ ≠ gb538)) (okp := (fun k_ => (P1_1_ k_ ∨ w.heap.size ≤ k_) ∧ some k_ ≠ (.slice Ao71 t533.length co71 : Value).ownBlock ∧ k_ ≠ gb523 ∧ k_ ≠ gb524 ∧ k_ ≠ gb537 ∧ k_ ≠ gb538)) ?hr ?hp (fun _ hk => hk) ((show ∀ k_, w76.heap.size ≤ k_ → (fun k_ => (P1_1_ k_ ∨ w.heap.size ≤ k_) ∧ some k_ ≠ (.slice Ao71 t533.length co71 : Value).ownBlock ∧ k_ ≠ gb523 ∧ k_ ≠ gb524 ∧ k_ ≠ gb537 ∧ k_ ≠ gb538) k_ from fun k_ hk => ⟨(.inr (Nat.le_trans (below_size (bw_ HB.out)) hk)), Kd.fresh' (Kd.R_lt (kr_ HO535.out)) k_ hk, Kd.freshB (g := gb523) (o := .cells #[.bool a0_0, .slice A0_1 l0_1.length c0_1] 24 (0, 0)) (kb_ BK523.out) k_ hk, Kd.freshB (g := gb524) (o := .cells #[.bool a1_0, .slice A1_1 l1_1.length c1_1] 24 (0, 0)) (kb_ BK524.out) k_ hk, Kd.freshB (g := gb537) (o := .cells #[.bool t528, .slice Ao67 t529.length co67] 24 (0, 0)) (kb_ BK537.out) k_ hk, Kd.freshB (g := gb538) (o := .cells #[.bool t532, .slice Ao71 t533.length co71] 24 (0, 0)) (kb_ BK538.out) k_ hk⟩) _ (Nat.le_refl _)) (Below.refl _ _) (Nat.le_refl _) (by simp) ?_; (case hd => rfl); (case hg => rfl); (case hr => first | (go_simp; done) | (go_simp; rfl)); (case hp => exact (Reps.c2 (show Kd.FK k24 _ _ (⟨t528, t529⟩ : S24) [.bool t528, .slice Ao67 t529.length co67] from (k24_mkF _ _ (⟨t528, t529⟩ : S24) (Kd.R_reads' (Kd.R_mono (ok' := (fun k_ => (P1_1_ k_ ∨ w.heap.size ≤ k_) ∧ some k_ ≠ (.slice Ao71 t533.length co71 : Value).ownBlock ∧ k_ ≠ gb523 ∧ k_ ≠ gb524 ∧ k_ ≠ gb537 ∧ k_ ≠ gb538)) (Kd.R_types (Kd.R_types (Kd.R_types (Kd.R_types (HO531.out) BK523.out (by decide)) BK524.out (by decide)) BK537.out (by decide)) BK538.out (by decide)) (fun k_ hk => ⟨(.inr (hk.1.1.1.1.1)), ⟨hk.1.1.1.1.2, ⟨hk.1.1.1.2, ⟨hk.1.1.2, ⟨hk.1.2, hk.2⟩⟩⟩⟩⟩))).2.1 (Kd.R_F (Kd.R_mono (ok' := (fun k_ => (P1_1_ k_ ∨ w.heap.size ≤ k_) ∧ some k_ ≠ (.slice Ao71 t533.length co71 : Value).ownBlock ∧ k_ ≠ gb523 ∧ k_ ≠ gb524 ∧ k_ ≠ gb537 ∧ k_ ≠ gb538)) (Kd.R_types (Kd.R_types (Kd.R_types (Kd.R_types (HO531.out) BK523.out (by decide)) BK524.out (by decide)) BK537.out (by decide)) BK538.out (by decide)) (fun k_ hk => ⟨(.inr (hk.1.1.1.1.1)), ⟨hk.1.1.1.1.2, ⟨hk.1.1.1.2, ⟨hk.1.1.2, ⟨hk.1.2, hk.2⟩⟩⟩⟩⟩))))) (Reps.c2 (show Kd.FK k24 _ _ (⟨a1_0, l1_1⟩ : S24) [.bool a1_0, .slice A1_1 l1_1.length c1_1] from (k24_mkF _ _ (⟨a1_0, l1_1⟩ : S24) (Kd.V_reads' (Kd.V_mono (ok' := (fun k_ => (P1_1_ k_ ∨ w.heap.size ≤ k_) ∧ some k_ ≠ (.slice Ao71 t533.length co71 : Value).ownBlock ∧ k_ ≠ gb523 ∧ k_ ≠ gb524 ∧ k_ ≠ gb537 ∧ k_ ≠ gb538)) (HO_525001.out) (fun k_ hk => ⟨hk.1.1.1.1.1, ⟨hk.1.1.2, ⟨hk.1.1.1.1.2.1, ⟨hk.1.1.1.1.2.2, ⟨hk.1.2, hk.2⟩⟩⟩⟩⟩))).2.1 (Kd.V_F (Kd.V_mono (ok' := (fun k_ => (P1_1_ k_ ∨ w.heap.size ≤ k_) ∧ some k_ ≠ (.slice Ao71 t533.length co71 : Value).ownBlock ∧ k_ ≠ gb523 ∧ k_ ≠ gb524 ∧ k_ ≠ gb537 ∧ k_ ≠ gb538)) (HO_525001.out) (fun k_ hk => ⟨hk.1.1.1.1.1, ⟨hk.1.1.2, ⟨hk.1.1.1.1.2.1, ⟨hk.1.1.1.1.2.2, ⟨hk.1.2, hk.2⟩⟩⟩⟩⟩))))) (Reps.none _ _))))
        intro v545 w77 ho78 hb hg_ hnew_
        clear hg_ hnew_
        (first | rw [← Ny544.out] at ho78 | (simp only [Int.reduceToNat] at ho78; rw [← Ny544.out] at ho78))
        have n0_ := Aside0.mk (Kd.V_elder' (by (with_reducible repeat (first | apply Kd.V_alloc | apply Kd.V_drewN | apply Kd.V_drew)); exact HO_525001.out) (Kd.N_base ho78) hb)
        have n1_ := Aside0.mk (Kd.R_below (kr_ HO535.out) hb)
        have n2_ := Aside0.mk (Kd.N_lower ho78 (below_size (bw_ HB.out)))
        have n3_ := kq_ BK523 hb
        have n4_ := kq_ BK524 hb
        have n5_ := kq_ BK537 hb
        have n6_ := kq_ BK538 hb
        have n7_ := bq_ HB hb
        clear HO_525001
        clear HO535
        clear BK523
        clear BK524
        clear BK537
        clear BK538
        clear HB
        clear HO531
        have HO_525001 := n0_
        have HO535 := n1_
        have HO546 := n2_
        have BK523 := n3_
        have BK524 := n4_
        have BK537 := n5_
        have BK538 := n6_
        have HB := n7_
        clear n0_ n1_ n2_ n3_ n4_ n5_ n6_ n7_
        clear hb ho78
        obtain ⟨Ao79, co79, eo79⟩ := Kd.N_slice HO546.out
        (first | subst eo79 | (injection eo79 with f1_ f2_ f3_; have f4_ := f1_.symm; have f5_ := f3_.symm; clear f1_ f2_ f3_; subst f4_; subst f5_))
        refine hK.out _ _ ⟨(blk_cell BK537.out 0).trans rfl, (blk_cell BK537.out 1).trans rfl, (blk_cell BK524.out 0).trans rfl, (blk_cell BK524.out 1).trans rfl, (blk_cell BK538.out 0).trans rfl, (blk_cell BK538.out 1).trans rfl, (blk_cell BK523.out 0).trans rfl, (blk_cell BK523.out 1).trans rfl⟩ (fun hHeld => ?_)
        clear hK K
        refine norm_ (a' := ?_) ?_ ?_
        rotate_left
        ·show Act.put _ (some 58) _ = _
         exact pt_
        refine one_ (i := 3) (N := some 59) #[true, true, true, true, true, false, true, false, false, false, false, false, false, false, false, false, false, false, false, false, false, false, false, false, false, false, false, false, false] rfl rfl (one_of HT_.out (by kernel_rfl)) (by decide) (fun K hK => ?_)
        refine gs_ Try.func14 #[.slice Ao79 y544.length co79] ?_
        with_reducible refine (whole_Mul.calls kj5 _ _ y544 t547 t548 _ ?side1 ?side2 A22.out).mono ?_
        (case side1 => exact kc_ (Kd.N_reads' HO546.out).2.2)
        (case side2 => exact (Kd.N_reads' HO546.out).2.1)
        rintro e w80 ⟨v549, rfl, ho0, hb⟩
        refine ⟨_, rfl, ?_⟩
        have n0_ := Aside0.mk (Kd.V_elder' (by (with_reducible repeat (first | apply Kd.V_alloc | apply Kd.V_drewN | apply Kd.V_drew)); exact HO_525001.out) (Kd.R_base ho0) hb)
        have n1_ := Aside0.mk (Kd.R_elder' (kr_ HO535.out) (Kd.R_base ho0) hb)
        have n2_ := Aside0.mk (Kd.N_elder' (by (with_reducible repeat (first | apply Kd.N_alloc | apply Kd.N_drewN | apply Kd.N_drew)); exact HO546.out) (Kd.R_base ho0) hb)
        have n3_ := Aside0.mk (Kd.R_lower (Kd.R_new' (Kd.R_newM (M := fun k_ => (w.heap.size ≤ k_)) ho0 (below_size (bw_ HB.out)) (fun k_ h_ => h_)) (Kd.R_lt (kr_ HO535.out))) (below_size (bw_ HB.out)))
        have n4_ := kq_ BK523 hb
        have n5_ := kq_ BK524 hb
        have n6_ := kq_ BK537 hb
        have n7_ := kq_ BK538 hb
        have n8_ := bq_ HB hb
        clear HO_525001
        clear HO535
        clear HO546
        clear BK523
        clear BK524
        clear BK537
        clear BK538
        clear HB
        have HO_525001 := n0_
        have HO535 := n1_
        have HO546 := n2_
        have HO550 := n3_
        have BK523 := n4_
        have BK524 := n5_
        have BK537 := n6_
        have BK538 := n7_
        have HB := n8_
        clear n0_ n1_ n2_ n3_ n4_ n5_ n6_ n7_ n8_
        (try clear hb)
        (try clear hb2)
        (try clear hk)
        (try clear hi)
        (try clear ho0)
        obtain ⟨Ao81, co81, eo81⟩ := Kd.R_slice HO550.out
        (first | subst eo81 | (injection eo81 with f1_ f2_ f3_; have f4_ := f1_.symm; have f5_ := f3_.symm; clear f1_ f2_ f3_; subst f4_; subst f5_))
        refine hK.out _ _ ⟨(blk_cell BK537.out 0).trans rfl, (blk_cell BK537.out 1).trans rfl, (blk_cell BK524.out 0).trans rfl, (blk_cell BK524.out 1).trans rfl, (blk_cell BK538.out 0).trans rfl, (blk_cell BK538.out 1).trans rfl, (blk_cell BK523.out 0).trans rfl, (blk_cell BK523.out 1).trans rfl⟩ (fun hHeld => ?_)
        clear hK K
        refine norm_ (a' := ?_) ?_ ?_
        rotate_left
        ·show Act.put _ (some 59) _ = _
         exact pt_
        refine one_ (i := 5) (N := some 61) #[true, true, true, true, true, true, true, false, false, false, false, false, false, false, false, false, false, false, false, false, false, false, false, false, false, false, false, false, false] rfl rfl (one_of HT_.out (by kernel_rfl)) (by decide) (fun K hK => ?_)
        refine gs_ Try.func27 #[.agg #[.bool t547, .slice Ao81 t548.length co81], .agg #[.bool t532, .slice Ao71 t533.length co71]] ?_
        with_reducible refine (whole_Add.calls kj5 t547 _ _ t548 t532 _ _ t533 t551 t552 _ ?side1 ?side2 ?side3 ?side4 A23.out).mono ?_
        (case side1 => exact kc_ (Kd.R_reads' HO550.out).2.2)
        (case side2 => exact (Kd.R_reads' HO550.out).2.1)
        (case side3 => exact kc_ (Kd.R_reads' HO535.out).2.2)
        (case side4 => exact (Kd.R_reads' HO535.out).2.1)
        rintro e w82 ⟨v553, rfl, ho0, hb⟩
        refine ⟨_, rfl, ?_⟩
        have n0_ := Aside0.mk (Kd.V_elder' (by (with_reducible repeat (first | apply Kd.V_alloc | apply Kd.V_drewN | apply Kd.V_drew)); exact HO_525001.out) (Kd.R_base ho0) hb)
        have n1_ := Aside0.mk (Kd.R_elder' (kr_ HO535.out) (Kd.R_base ho0) hb)
        have n2_ := Aside0.mk (Kd.N_elder' (by (with_reducible repeat (first | apply Kd.N_alloc | apply Kd.N_drewN | apply Kd.N_drew)); exact HO546.out) (Kd.R_base ho0) hb)
        have n3_ := Aside0.mk (Kd.R_elder' (kr_ HO550.out) (Kd.R_base ho0) hb)
        have n4_ := Aside0.mk (Kd.R_lower (Kd.R_new' (Kd.R_new' (Kd.R_newM (M := fun k_ => (w.heap.size ≤ k_)) ho0 (below_size (bw_ HB.out)) (fun k_ h_ => h_)) (Kd.R_lt (kr_ HO535.out))) (Kd.R_lt (kr_ HO550.out))) (below_size (bw_ HB.out)))
        have n5_ := kq_ BK523 hb
        have n6_ := kq_ BK524 hb
        have n7_ := kq_ BK537 hb
        have n8_ := kq_ BK538 hb
        have n9_ := bq_ HB hb
        clear HO_525001
        clear HO535
        clear HO546
        clear HO550
        clear BK523
        clear BK524
        clear BK537
        clear BK538
        clear HB
        have HO_525001 := n0_
        have HO535 := n1_
        have HO546 := n2_
        have HO550 := n3_
        have HO554 := n4_
        have BK523 := n5_
        have BK524 := n6_
        have BK537 := n7_
        have BK538 := n8_
        have HB := n9_
        clear n0_ n1_ n2_ n3_ n4_ n5_ n6_ n7_ n8_ n9_
        (try clear hb)
        (try clear hb2)
        (try clear hk)
        (try clear hi)
        (try clear ho0)
        obtain ⟨Ao83, co83, eo83⟩ := Kd.R_slice HO554.out
        (first | subst eo83 | (injection eo83 with f1_ f2_ f3_; have f4_ := f1_.symm; have f5_ := f3_.symm; clear f1_ f2_ f3_; subst f4_; subst f5_))
        refine hK.out _ _ ⟨(blk_cell BK537.out 0).trans rfl, (blk_cell BK537.out 1).trans rfl, (blk_cell BK524.out 0).trans rfl, (blk_cell BK524.out 1).trans rfl, (blk_cell BK538.out 0).trans rfl, (blk_cell BK538.out 1).trans rfl, (blk_cell BK523.out 0).trans rfl, (blk_cell BK523.out 1).trans rfl⟩ (fun hHeld => ?_)
        clear hK K
        refine norm_ (a' := ?_) ?_ ?_
        rotate_left
        ·show Act.put _ (some 61) _ = _
         exact pt_
        refine one_ (i := 7) (N := some 63) #[true, true, true, true, true, true, true, true, false, false, false, false, false, false, false, false, false, false, false, false, false, false, false, false, false, false, false, false, false] rfl rfl (one_of HT_.out (by kernel_rfl)) (by decide) (fun K hK => ?_)
        refine gs_ Try.func26 #[.agg #[.bool t551, .slice Ao83 t552.length co83], .agg #[.bool a0_0, .slice A0_1 l0_1.length c0_1]] ?_
        with_reducible refine (whole_Same.calls kj5 t551 _ _ t552 a0_0 _ _ l0_1 true _ ?side1 ?side2 ?side3 ?side4 A24.out).mono ?_
        (case side1 => exact kc_ (Kd.R_reads' HO554.out).2.2)
        (case side2 => exact (Kd.R_reads' HO554.out).2.1)
        (case side3 => exact kc_ (Kd.C_below HR0_1.out HB.out))
        (case side4 => exact HC0_1.out)
        rintro e w84 ⟨rfl, hb⟩
        refine ⟨_, rfl, ?_⟩
        have n0_ := Aside0.mk (Kd.V_below (by (with_reducible repeat (first | apply Kd.V_alloc | apply Kd.V_drewN | apply Kd.V_drew)); exact HO_525001.out) hb)
        have n1_ := Aside0.mk (Kd.R_below (kr_ HO535.out) hb)
        have n2_ := Aside0.mk (Kd.N_below (by (with_reducible repeat (first | apply Kd.N_alloc | apply Kd.N_drewN | apply Kd.N_drew)); exact HO546.out) hb)
        have n3_ := Aside0.mk (Kd.R_below (kr_ HO550.out) hb)
        have n4_ := Aside0.mk (Kd.R_below (kr_ HO554.out) hb)
        have n5_ := kq_ BK523 hb
        have n6_ := kq_ BK524 hb
        have n7_ := kq_ BK537 hb
        have n8_ := kq_ BK538 hb
        have n9_ := bq_ HB hb
        clear HO_525001
        clear HO535
        clear HO546
        clear HO550
        clear HO554
        clear BK523
        clear BK524
        clear BK537
        clear BK538
        clear HB
        have HO_525001 := n0_
        have HO535 := n1_
        have HO546 := n2_
        have HO550 := n3_
        have HO554 := n4_
        have BK523 := n5_
        have BK524 := n6_
        have BK537 := n7_
        have BK538 := n8_
        have HB := n9_
        clear n0_ n1_ n2_ n3_ n4_ n5_ n6_ n7_ n8_ n9_
        (try clear hb)
        (try clear hb2)
        (try clear hk)
        (try clear hi)
        refine hK.out _ _ ⟨(blk_cell BK537.out 0).trans rfl, (blk_cell BK537.out 1).trans rfl, (blk_cell BK524.out 0).trans rfl, (blk_cell BK524.out 1).trans rfl, (blk_cell BK538.out 0).trans rfl, (blk_cell BK538.out 1).trans rfl, (blk_cell BK523.out 0).trans rfl, (blk_cell BK523.out 1).trans rfl⟩ (fun hHeld => ?_)
        clear hK K
        refine norm_ (a' := ?_) ?_ ?_
        rotate_left
        ·show Act.put _ (some 63) _ = _
         exact pt_
        refine pure_ (i := 8) (N := some 64) (v := ?_) (a' := ?_) #[true, true, true, true, true, true, true, true, true, false, false, false, false, false, false, false, false, false, false, false, false, false, false, false, false, false, false, false, false] rfl rfl (any_of HT_.out (by kernel_rfl)) (fun _ _ _ h => h) (Or.inl ⟨by rfl, ?_⟩) ?_ ?_
        rotate_left
        ·intro w'
         go_simp
         with_reducible rfl
        rotate_left
        ·exact pt_
        refine pure_ (i := 9) (N := some 65) (v := ?_) (a' := ?_) #[true, true, true, true, true, true, true, true, true, true, false, false, false, false, false, false, false, false, false, false, false, false, false, false, false, false, false, false, false] rfl rfl (any_of HT_.out (by kernel_rfl)) (fun _ _ _ h => h) (Or.inl ⟨by rfl, ?_⟩) ?_ ?_
        rotate_left
        ·intro w'
         go_simp
         with_reducible rfl
        rotate_left
        ·exact pt_
        refine pure_ (i := 10) (N := some 66) (v := ?_) (a' := ?_) #[true, true, true, true, true, true, true, true, true, true, true, false, false, false, false, false, false, false, false, false, false, false, false, false, false, false, false, false, false] rfl rfl (any_of HT_.out (by kernel_rfl)) (fun _ _ _ h => h) (Or.inl ⟨by rfl, ?_⟩) ?_ ?_
        rotate_left
        ·intro w'
         go_simp
         with_reducible rfl
        rotate_left
        ·exact pt_
        refine pure_ (i := 11) (N := some 67) (v := ?_) (a' := ?_) #[true, true, true, true, true, true, true, true, true, true, true, true, false, false, false, false, false, false, false, false, false, false, false, false, false, false, false, false, false] rfl rfl (any_of HT_.out (by kernel_rfl)) (fun _ _ _ h => h) (Or.inl ⟨by rfl, ?_⟩) ?_ ?_
        rotate_left
        ·intro w'
         go_simp
         with_reducible rfl
        rotate_left
        ·exact pt_
        refine pure_ (i := 12) (N := some 68) (v := ?_) (a' := ?_) #[true, true, true, true, true, true, true, true, true, true, true, true, true, false, false, false, false, false, false, false, false, false, false, false, false, false, false, false, false] rfl rfl (any_of HT_.out (by kernel_rfl)) (fun _ _ _ h => h) (Or.inl ⟨by rfl, ?_⟩) ?_ ?_
        rotate_left
        ·intro w'
         go_simp
         with_reducible rfl
        rotate_left
        ·exact pt_
        refine take_ (i := 13) (N := some 69) (v := ?_) (a' := ?_) #[true, true, true, true, true, true, true, true, true, true, true, true, true, true, false, false, false, false, false, false, false, false, false, false, false, false, false, false, false] rfl rfl (take_ofW HT_.out HW_.out (by kernel_rfl)) (fun _ _ _ h => h) (Or.inl ⟨by rfl, ?_⟩) hHeld ?_ ?_
        rotate_left
        ·rintro w' ⟨s0, s1, s2, s3, s4, s5, s6, s7⟩
         go_simp
         with_reducible rfl
        rotate_left
        ·exact pt_
        refine one_ (i := 14) (N := some 70) #[true, true, true, true, true, true, true, true, true, true, true, true, true, true, true, false, false, false, false, false, false, false, false, false, false, false, false, false, false] rfl rfl (one_of HT_.out (by kernel_rfl)) (by decide) (fun K hK => ?_)
        refine gs_ Try.func24 #[.agg #[.bool a1_0, .slice A1_1 l1_1.length c1_1]] ?_
        with_reducible refine (whole_Sign.calls kj5 a1_0 _ _ l1_1 t556 _ ?side1 ?side2 A55.out).mono ?_
        (case side1 => exact kc_ (Kd.V_reads' HO_525001.out).2.2)
        (case side2 => exact (Kd.V_reads' HO_525001.out).2.1)
        rintro e w85 ⟨rfl, hb⟩
        refine ⟨_, rfl, ?_⟩
        have n0_ := Aside0.mk (Kd.V_below (by (with_reducible repeat (first | apply Kd.V_alloc | apply Kd.V_drewN | apply Kd.V_drew)); exact HO_525001.out) hb)
        have n1_ := Aside0.mk (Kd.R_below (kr_ HO535.out) hb)
        have n2_ := Aside0.mk (Kd.N_below (by (with_reducible repeat (first | apply Kd.N_alloc | apply Kd.N_drewN | apply Kd.N_drew)); exact HO546.out) hb)
        have n3_ := Aside0.mk (Kd.R_below (kr_ HO550.out) hb)
        have n4_ := Aside0.mk (Kd.R_below (kr_ HO554.out) hb)
        have n5_ := kq_ BK523 hb
        have n6_ := kq_ BK524 hb
        have n7_ := kq_ BK537 hb
        have n8_ := kq_ BK538 hb
        have n9_ := bq_ HB hb
        clear HO_525001
        clear HO535
        clear HO546
        clear HO550
        clear HO554
        clear BK523
        clear BK524
        clear BK537
        clear BK538
        clear HB
        have HO_525001 := n0_
        have HO535 := n1_
        have HO546 := n2_
        have HO550 := n3_
        have HO554 := n4_
        have BK523 := n5_
        have BK524 := n6_
        have BK537 := n7_
        have BK538 := n8_
        have HB := n9_
        clear n0_ n1_ n2_ n3_ n4_ n5_ n6_ n7_ n8_ n9_
        (try clear hb)
        (try clear hb2)
        (try clear hk)
        (try clear hi)
        refine hK.out _ _ ⟨(blk_cell BK537.out 0).trans rfl, (blk_cell BK537.out 1).trans rfl, (blk_cell BK524.out 0).trans rfl, (blk_cell BK524.out 1).trans rfl, (blk_cell BK538.out 0).trans rfl, (blk_cell BK538.out 1).trans rfl, (blk_cell BK523.out 0).trans rfl, (blk_cell BK523.out 1).trans rfl⟩ (fun hHeld => ?_)
        clear hK K
        refine norm_ (a' := ?_) ?_ ?_
        rotate_left
        ·show Act.put _ (some 70) _ = _
         exact pt_
        refine pure_ (i := 15) (N := some 71) (v := ?_) (a' := ?_) #[true, true, true, true, true, true, true, true, true, true, true, true, true, true, true, true, false, false, false, false, false, false, false, false, false, false, false, false, false] rfl rfl (any_of HT_.out (by kernel_rfl)) (fun _ _ _ h => h) (Or.inl ⟨by rfl, ?_⟩) ?_ ?_
        rotate_left
        ·intro w'
         go_simp
         with_reducible rfl
        rotate_left
        ·exact pt_
        refine pure_ (i := 16) (N := some 72) (v := ?_) (a' := ?_) #[true, true, true, true, true, true, true, true, true, true, true, true, true, true, true, true, true, false, false, false, false, false, false, false, false, false, false, false, false] rfl rfl (any_of HT_.out (by kernel_rfl)) (fun _ _ _ h => h) (Or.inl ⟨by rfl, ?_⟩) ?_ ?_
        rotate_left
        ·intro w'
         go_simp
         with_reducible rfl
        rotate_left
        ·exact pt_
        refine pure_ (i := 17) (N := some 73) (v := ?_) (a' := ?_) #[true, true, true, true, true, true, true, true, true, true, true, true, true, true, true, true, true, true, false, false, false, false, false, false, false, false, false, false, false] rfl rfl (any_of HT_.out (by kernel_rfl)) (fun _ _ _ h => h) (Or.inl ⟨by rfl, ?_⟩) ?_ ?_
        rotate_left
        ·intro w'
         go_simp
         with_reducible rfl
        rotate_left
        ·exact pt_
        refine pure_ (i := 18) (N := some 74) (v := ?_) (a' := ?_) #[true, true, true, true, true, true, true, true, true, true, true, true, true, true, true, true, true, true, true, false, false, false, false, false, false, false, false, false, false] rfl rfl (any_of HT_.out (by kernel_rfl)) (fun _ _ _ h => h) (Or.inl ⟨by rfl, ?_⟩) ?_ ?_
        rotate_left
        ·intro w'
         go_simp
         with_reducible rfl
        rotate_left
        ·exact pt_
        refine pure_ (i := 19) (N := some 75) (v := ?_) (a' := ?_) #[true, true, true, true, true, true, true, true, true, true, true, true, true, true, true, true, true, true, true, true, false, false, false, false, false, false, false, false, false] rfl rfl (any_of HT_.out (by kernel_rfl)) (fun _ _ _ h => h) (Or.inl ⟨by rfl, ?_⟩) ?_ ?_
        rotate_left
        ·intro w'
         go_simp
         with_reducible rfl
        rotate_left
        ·exact pt_
        refine pure_ (i := 20) (N := some 76) (v := ?_) (a' := ?_) #[true, true, true, true, true, true, true, true, true, true, true, true, true, true, true, true, true, true, true, true, true, false, false, false, false, false, false, false, false] rfl rfl (any_of HT_.out (by kernel_rfl)) (fun _ _ _ h => h) (Or.inl ⟨by rfl, ?_⟩) ?_ ?_
        rotate_left
        ·intro w'
         go_simp
         with_reducible rfl
        rotate_left
        ·exact pt_
        refine pure_ (i := 21) (N := some 77) (v := ?_) (a' := ?_) #[true, true, true, true, true, true, true, true, true, true, true, true, true, true, true, true, true, true, true, true, true, true, false, false, false, false, false, false, false] rfl rfl (any_of HT_.out (by kernel_rfl)) (fun _ _ _ h => h) (Or.inl ⟨by rfl, ?_⟩) ?_ ?_
        rotate_left
        ·intro w'
         go_simp
         with_reducible rfl
        rotate_left
        ·exact pt_
        refine pure_ (i := 22) (N := some 78) (v := ?_) (a' := ?_) #[true, true, true, true, true, true, true, true, true, true, true, true, true, true, true, true, true, true, true, true, true, true, true, false, false, false, false, false, false] rfl rfl (any_of HT_.out (by kernel_rfl)) (fun _ _ _ h => h) (Or.inl ⟨by rfl, ?_⟩) ?_ ?_
        rotate_left
        ·intro w'
         go_simp
         with_reducible rfl
        rotate_left
        ·exact pt_
        refine pure_ (i := 23) (N := some 79) (v := ?_) (a' := ?_) #[true, true, true, true, true, true, true, true, true, true, true, true, true, true, true, true, true, true, true, true, true, true, true, true, false, false, false, false, false] rfl rfl (any_of HT_.out (by kernel_rfl)) (fun _ _ _ h => h) (Or.inl ⟨by rfl, ?_⟩) ?_ ?_
        rotate_left
        ·intro w'
         go_simp
         with_reducible rfl
        rotate_left
        ·exact pt_
        refine pure_ (i := 24) (N := some 80) (v := ?_) (a' := ?_) #[true, true, true, true, true, true, true, true, true, true, true, true, true, true, true, true, true, true, true, true, true, true, true, true, true, false, false, false, false] rfl rfl (any_of HT_.out (by kernel_rfl)) (fun _ _ _ h => h) (Or.inl ⟨by rfl, ?_⟩) ?_ ?_
        rotate_left
        ·intro w'
         go_simp
         with_reducible rfl
        rotate_left
        ·exact pt_
        refine pure_ (i := 25) (N := some 81) (v := ?_) (a' := ?_) #[true, true, true, true, true, true, true, true, true, true, true, true, true, true, true, true, true, true, true, true, true, true, true, true, true, true, false, false, false] rfl rfl (any_of HT_.out (by kernel_rfl)) (fun _ _ _ h => h) (Or.inl ⟨by rfl, ?_⟩) ?_ ?_
        rotate_left
        ·intro w'
         go_simp
         with_reducible rfl
        rotate_left
        ·exact pt_
        refine pure_ (i := 26) (N := some 82) (v := ?_) (a' := ?_) #[true, true, true, true, true, true, true, true, true, true, true, true, true, true, true, true, true, true, true, true, true, true, true, true, true, true, true, false, false] rfl rfl (any_of HT_.out (by kernel_rfl)) (fun _ _ _ h => h) (Or.inl ⟨by rfl, ?_⟩) ?_ ?_
        rotate_left
        ·intro w'
         go_simp
         with_reducible rfl
        rotate_left
        ·exact pt_
        refine pure_ (i := 27) (N := some 83) (v := ?_) (a' := ?_) #[true, true, true, true, true, true, true, true, true, true, true, true, true, true, true, true, true, true, true, true, true, true, true, true, true, true, true, true, false] rfl rfl (any_of HT_.out (by kernel_rfl)) (fun _ _ _ h => h) (Or.inl ⟨by rfl, ?_⟩) ?_ ?_
        rotate_left
        ·intro w'
         go_simp
         with_reducible rfl
        rotate_left
        ·exact pt_
        refine pure_ (i := 28) (N := some 4) (v := ?_) (a' := ?_) #[true, true, true, true, true, true, true, true, true, true, true, true, true, true, true, true, true, true, true, true, true, true, true, true, true, true, true, true, true] rfl rfl (any_of HT_.out (by kernel_rfl)) (fun _ _ _ h => h) (Or.inl ⟨by rfl, ?_⟩) ?_ ?_
        rotate_left
        ·intro w'
         go_simp
         with_reducible rfl
        rotate_left
        ·exact pt_
        refine done_ (done_of HT_.out (by kernel_rfl)) ?_
        try go_wp2
        go_ret
        exact ⟨rf_, bw_ HB.out⟩
       ·rw [if_neg c56] at H
        have c56b0 : (t542 == t556) = false := beq_eq_false_iff_ne.mpr c56
        have c56b1 : (t542 != t556) = true := bne_iff_ne.mpr c56
        exact absurd ((Option.some.inj H).trans HRT_.out) (by simp)
     ·replace c25 := Bool.eq_false_iff.mpr c25
      subst c25
      have H1 : (some false) = some r := by rw [if_neg (show ¬ (false = true) by decide)] at H; exact H
      clear H
      have H := H1
      clear H1
      exact absurd ((Option.some.inj H).trans HRT_.out) (by simp)
    ·replace c19 := Bool.eq_false_iff.mpr c19
     subst c19
     have H1 : ((whole_Sign.f kj5 a1_0 l1_1).bind fun t539 => (if t539 = 0 then ((whole_Sign.f kj5 t528 t529).bind fun t540 => (if t540 = 0 then ((whole_Sign.f kj5 t532 t533).bind fun t541 => (some (t541 == 0))) else (some false))) else (some false))) = some r := by rw [if_neg (show ¬ (false = true) by decide)] at H; exact H
     clear H
     have H := H1
     clear H1
     replace H := Option.bind_eq_some_iff.mp H
     obtain ⟨t539, A860, H⟩ := H
     (try dsimp only at H)
     have A86 := Aside0.mk A860
     clear A860
     by_cases c87 : t539 = 0
     ·rw [if_pos c87] at H
      have c87b0 : (t539 == 0) = true := beq_iff_eq.mpr c87
      have c87b1 : (t539 != 0) = false := bne_eq_false_iff_eq.mpr c87
      clear c87
      replace H := Option.bind_eq_some_iff.mp H
      obtain ⟨t540, A880, H⟩ := H
      (try dsimp only at H)
      have A88 := Aside0.mk A880
      clear A880
      by_cases c89 : t540 = 0
      ·rw [if_pos c89] at H
       have c89b0 : (t540 == 0) = true := beq_iff_eq.mpr c89
       have c89b1 : (t540 != 0) = false := bne_eq_false_iff_eq.mpr c89
       clear c89
       replace H := Option.bind_eq_some_iff.mp H
       obtain ⟨t541, A900, H⟩ := H
       (try dsimp only at H)
       have A90 := Aside0.mk A900
       clear A900
       obtain rfl := Option.some.inj H
       have hnb91 := NB523_524.out
       have hnc91 := NB524_523.out
       obtain ⟨hcz92_0, hcz92_1, hfz92_0, hfz92_1⟩ := c2_ BK523
       obtain ⟨hcz93_0, hcz93_1, hfz93_0, hfz93_1⟩ := c2_ BK524
       go_wp2_with (first | ((with_reducible refine gate_callee (f := 11) rfl ?_); refine gl_ (some 32) Try.func11 #[.agg #[.bool a0_0, .slice A0_1 l0_1.length c0_1], .agg #[.bool a1_0, .slice A1_1 l1_1.length c1_1]] ?_; (with_reducible refine (whole_Div.calls kj5 a0_0 _ _ l0_1 a1_0 _ _ l1_1 t528 t529 t532 t533 false _ ?side1 ?side2 ?side3 ?side4 A18.out).mono ?_); (case side1 => exact kc_ (Kd.C_below HR0_1.out HB.out)); (case side2 => exact HC0_1.out); (case side3 => exact kc_ (Kd.V_reads' HO_525001.out).2.2); (case side4 => exact (Kd.V_reads' HO_525001.out).2.1); rintro e w94 ⟨v530, v534, rfl, ho0, ho1, hb⟩; refine ⟨_, rfl, ?_⟩; have n0_ := Aside0.mk (Kd.V_mono (Kd.V_told (Kd.V_told (Kd.V_old (by (with_reducible repeat (first | apply Kd.V_alloc | apply Kd.V_drewN | apply Kd.V_drew)); exact HO_525001.out) hb) (Kd.R_base ho0)) (Kd.R_base ho1)) (fun _ h_ => h_.1)); have n1_ := Aside0.mk (Kd.R_lower (Kd.R_newM (M := fun k_ => (w.heap.size ≤ k_)) ho0 (below_size (bw_ HB.out)) (fun k_ h_ => h_)) (below_size (bw_ HB.out))); have n2_ := Aside0.mk (Kd.R_lower (Kd.R_newM (M := fun k_ => (w.heap.size ≤ k_)) ho1 (below_size (bw_ HB.out)) (fun k_ h_ => h_)) (below_size (bw_ HB.out))); have n3_ := kq_ BK523 hb; have n4_ := kq_ BK524 hb; have n5_ := bq_ HB hb; clear HO_525001; clear BK523; clear BK524; clear HB; have HO_525001 := n0_; have HO531 := n1_; have HO535 := n2_; have BK523 := n3_; have BK524 := n4_; have HB := n5_; clear n0_ n1_ n2_ n3_ n4_ n5_; (try clear hb); (try clear hb2); (try clear hk); (try clear hi); (try clear ho0); (try clear ho1)) | ((with_reducible refine gate_dst (N := 8) rfl ?_); refine bx_ 8 #[.bool false, .slice none 0 0] 24 ?_; intro gb537 hg w95 hbox hb; have n0_ := Aside0.mk (Kd.V_below (Kd.V_elderB (by (with_reducible repeat (first | apply Kd.V_alloc | apply Kd.V_drewN | apply Kd.V_drew)); exact HO_525001.out) gb537 (Nat.le_of_eq hg.symm)) hb); have n1_ := Aside0.mk (Kd.R_below (kr_ HO531.out) hb); have n2_ := Aside0.mk (Kd.R_below (kr_ HO535.out) hb); have n3_ := kq_ BK523 hb; have n4_ := kq_ BK524 hb; have n5_ := bq_ HB hb; have n6_ := Aside0.mk (hbox); have n7_ := ge_ hg HB; have n8_ := ge_ hg HB; have n9_ := nb_ hg BK523; have n10_ := nc_ hg BK523; have n11_ := nb_ hg BK524; have n12_ := nc_ hg BK524; clear HO_525001; clear HO531; clear HO535; clear BK523; clear BK524; clear HB; have HO_525001 := n0_; have HO531 := n1_; have HO535 := n2_; have BK523 := n3_; have BK524 := n4_; have HB := n5_; have BK537 := n6_; have GW537 := n7_; have GE537 := n8_; have NB523_537 := n9_; have NB537_523 := n10_; have NB524_537 := n11_; have NB537_524 := n12_; clear n0_ n1_ n2_ n3_ n4_ n5_ n6_ n7_ n8_ n9_ n10_ n11_ n12_; clear hb hbox hg) | ((with_reducible refine gate_dst (N := 9) rfl ?_); refine bx_ 9 #[.bool false, .slice none 0 0] 24 ?_; intro gb538 hg w96 hbox hb; have n0_ := Aside0.mk (Kd.V_below (Kd.V_elderB (by (with_reducible repeat (first | apply Kd.V_alloc | apply Kd.V_drewN | apply Kd.V_drew)); exact HO_525001.out) gb538 (Nat.le_of_eq hg.symm)) hb); have n1_ := Aside0.mk (Kd.R_below (kr_ HO531.out) hb); have n2_ := Aside0.mk (Kd.R_below (kr_ HO535.out) hb); have n3_ := kq_ BK523 hb; have n4_ := kq_ BK524 hb; have n5_ := kq_ BK537 hb; have n6_ := bq_ HB hb; have n7_ := Aside0.mk (hbox); have n8_ := ge_ hg HB; have n9_ := ge_ hg HB; have n10_ := nb_ hg BK523; have n11_ := nc_ hg BK523; have n12_ := nb_ hg BK524; have n13_ := nc_ hg BK524; have n14_ := nb_ hg BK537; have n15_ := nc_ hg BK537; clear HO_525001; clear HO531; clear HO535; clear BK523; clear BK524; clear BK537; clear HB; have HO_525001 := n0_; have HO531 := n1_; have HO535 := n2_; have BK523 := n3_; have BK524 := n4_; have BK537 := n5_; have HB := n6_; have BK538 := n7_; have GW538 := n8_; have GE538 := n9_; have NB523_538 := n10_; have NB538_523 := n11_; have NB524_538 := n12_; have NB538_524 := n13_; have NB537_538 := n14_; have NB538_537 := n15_; clear n0_ n1_ n2_ n3_ n4_ n5_ n6_ n7_ n8_ n9_ n10_ n11_ n12_ n13_ n14_ n15_; clear hb hbox hg; have hnb97 := NB537_523.out; have hnc97 := NB523_537.out; have hnb98 := NB537_524.out; have hnc98 := NB524_537.out; have hnb99 := NB537_538.out; have hnc99 := NB538_537.out; obtain ⟨hcz100_0, hcz100_1, hfz100_0, hfz100_1⟩ := c2_ BK537; obtain ⟨Ao101, co101, eo101⟩ := Kd.R_slice HO531.out; subst eo101; have hnb102 := NB538_523.out; have hnc102 := NB523_538.out; have hnb103 := NB538_524.out; have hnc103 := NB524_538.out; obtain ⟨hcz104_0, hcz104_1, hfz104_0, hfz104_1⟩ := c2_ BK538; obtain ⟨Ao105, co105, eo105⟩ := Kd.R_slice HO535.out; subst eo105; obtain ⟨hcz106_0, hcz106_1, hfz106_0, hfz106_1⟩ := c2_ BK524) | ((with_reducible refine gate_callee (f := 24) rfl ?_); refine gl_ (some 39) Try.func24 #[.agg #[.bool a1_0, .slice A1_1 l1_1.length c1_1]] ?_; (with_reducible refine (whole_Sign.calls kj5 a1_0 _ _ l1_1 t539 _ ?side1 ?side2 A86.out).mono ?_); (case side1 => refine (Kd.V_reads' (e := 47) (base := w.heap.size) (ok := fun k_ => ((((((P1_1_ k_ ∨ w.heap.size ≤ k_) ∧ (k_ ≠ gb523 ∧ k_ ≠ gb524)) ∧ some k_ ≠ (.slice Ao101 t529.length co101 : Value).ownBlock) ∧ some k_ ≠ (.slice Ao105 t533.length co105 : Value).ownBlock) ∧ k_ ≠ gb537) ∧ k_ ≠ gb538)) (n := l1_1.length) (c := c1_1) ?_).2.2; exact (by (with_reducible repeat (first | apply Kd.V_alloc | apply Kd.V_drewN | apply Kd.V_drew)); exact (Kd.V_mono (Kd.V_mono (Kd.V_far (p := ⟨gb538, 1, none⟩) (Kd.V_far (p := ⟨gb538, 0, none⟩) (Kd.V_far (p := ⟨gb537, 1, none⟩) (Kd.V_far (p := ⟨gb537, 0, none⟩) (Kd.V_mono (Kd.V_mono HO_525001.out (fun k_ hk => (⟨hk, hk.1.2⟩ : _ ∧ k_ ≠ gb537))) (fun k_ hk => (⟨hk, hk.1.2⟩ : _ ∧ k_ ≠ gb538))) (fun _ hk => hk.1.2) (.bool t528)) (fun _ hk => hk.1.2) (.slice Ao101 t529.length co101)) (fun _ hk => hk.2) (.bool t532)) (fun _ hk => hk.2) (.slice Ao105 t533.length co105)) (fun _ h_ => h_.1)) (fun _ h_ => h_.1)))); (case side2 => exact (Kd.V_reads' HO_525001.out).2.1); rintro e w107 ⟨rfl, hb⟩; refine ⟨_, rfl, ?_⟩; have n0_ := Aside0.mk (Kd.V_below (by (with_reducible repeat (first | apply Kd.V_alloc | apply Kd.V_drewN | apply Kd.V_drew)); exact (Kd.V_mono (Kd.V_mono (Kd.V_far (p := ⟨gb538, 1, none⟩) (Kd.V_far (p := ⟨gb538, 0, none⟩) (Kd.V_far (p := ⟨gb537, 1, none⟩) (Kd.V_far (p := ⟨gb537, 0, none⟩) (Kd.V_mono (Kd.V_mono HO_525001.out (fun k_ hk => (⟨hk, hk.1.2⟩ : _ ∧ k_ ≠ gb537))) (fun k_ hk => (⟨hk, hk.1.2⟩ : _ ∧ k_ ≠ gb538))) (fun _ hk => hk.1.2) (.bool t528)) (fun _ hk => hk.1.2) (.slice Ao101 t529.length co101)) (fun _ hk => hk.2) (.bool t532)) (fun _ hk => hk.2) (.slice Ao105 t533.length co105)) (fun _ h_ => h_.1)) (fun _ h_ => h_.1))) hb); have n1_ := Aside0.mk (Kd.R_below (kr_ ((Kd.R_mono (Kd.R_mono (Kd.R_far (p := ⟨gb538, 1, none⟩) (Kd.R_far (p := ⟨gb538, 0, none⟩) (Kd.R_far (p := ⟨gb537, 1, none⟩) (Kd.R_far (p := ⟨gb537, 0, none⟩) (Kd.R_types (Kd.R_types HO531.out BK537.out (by decide)) BK538.out (by decide)) (fun _ hk => hk.1.2) (.bool t528)) (fun _ hk => hk.1.2) (.slice Ao101 t529.length co101)) (fun _ hk => hk.2) (.bool t532)) (fun _ hk => hk.2) (.slice Ao105 t533.length co105)) (fun _ h_ => h_.1)) (fun _ h_ => h_.1)))) hb); have n2_ := Aside0.mk (Kd.R_below (kr_ ((Kd.R_mono (Kd.R_mono (Kd.R_far (p := ⟨gb538, 1, none⟩) (Kd.R_far (p := ⟨gb538, 0, none⟩) (Kd.R_far (p := ⟨gb537, 1, none⟩) (Kd.R_far (p := ⟨gb537, 0, none⟩) (Kd.R_types (Kd.R_types HO535.out BK537.out (by decide)) BK538.out (by decide)) (fun _ hk => hk.1.2) (.bool t528)) (fun _ hk => hk.1.2) (.slice Ao101 t529.length co101)) (fun _ hk => hk.2) (.bool t532)) (fun _ hk => hk.2) (.slice Ao105 t533.length co105)) (fun _ h_ => h_.1)) (fun _ h_ => h_.1)))) hb); have n3_ := Aside0.mk (blk_below (g := gb523) (o := .cells #[.bool a0_0, .slice A0_1 l0_1.length c0_1] 24 (0, 0)) (by refine kb_ ?_; refine bf_ NB523_538 ?_; refine bf_ NB523_538 ?_; refine bf_ NB523_537 ?_; refine bf_ NB523_537 ?_; exact BK523.out) hb); have n4_ := Aside0.mk (blk_below (g := gb524) (o := .cells #[.bool a1_0, .slice A1_1 l1_1.length c1_1] 24 (0, 0)) (by refine kb_ ?_; refine bf_ NB524_538 ?_; refine bf_ NB524_538 ?_; refine bf_ NB524_537 ?_; refine bf_ NB524_537 ?_; exact BK524.out) hb); have n5_ := Aside0.mk (blk_below (g := gb537) (o := .cells #[.bool t528, .slice Ao101 t529.length co101] 24 (0, 0)) (by refine kb_ ?_; refine bf_ NB537_538 ?_; refine bf_ NB537_538 ?_; refine bp_ #[.bool t528, .slice none 0 0] 1 ?_; refine bp_ #[.bool false, .slice none 0 0] 0 ?_; exact BK537.out) hb); have n6_ := Aside0.mk (blk_below (g := gb538) (o := .cells #[.bool t532, .slice Ao105 t533.length co105] 24 (0, 0)) (by refine kb_ ?_; refine bp_ #[.bool t532, .slice none 0 0] 1 ?_; refine bp_ #[.bool false, .slice none 0 0] 0 ?_; refine bf_ NB538_537 ?_; refine bf_ NB538_537 ?_; exact BK538.out) hb); have n7_ := bq_ HB hb; clear HO_525001; clear HO531; clear HO535; clear BK523; clear BK524; clear BK537; clear BK538; clear HB; have HO_525001 := n0_; have HO531 := n1_; have HO535 := n2_; have BK523 := n3_; have BK524 := n4_; have BK537 := n5_; have BK538 := n6_; have HB := n7_; clear n0_ n1_ n2_ n3_ n4_ n5_ n6_ n7_; (try clear hb); (try clear hb2); (try clear hk); (try clear hi); obtain ⟨hcz108_0, hcz108_1, hfz108_0, hfz108_1⟩ := c2_ BK537) | (go_at_call 24; (with_reducible refine (whole_Sign.calls kj5 t528 _ _ t529 t540 _ ?side1 ?side2 A88.out).mono ?_); (case side1 => exact kc_ (Kd.R_reads' HO531.out).2.2); (case side2 => exact (Kd.R_reads' HO531.out).2.1); rintro e w109 ⟨rfl, hb⟩; have n0_ := Aside0.mk (Kd.V_below (by (with_reducible repeat (first | apply Kd.V_alloc | apply Kd.V_drewN | apply Kd.V_drew)); exact HO_525001.out) hb); have n1_ := Aside0.mk (Kd.R_below (kr_ HO531.out) hb); have n2_ := Aside0.mk (Kd.R_below (kr_ HO535.out) hb); have n3_ := kq_ BK523 hb; have n4_ := kq_ BK524 hb; have n5_ := kq_ BK537 hb; have n6_ := kq_ BK538 hb; have n7_ := bq_ HB hb; clear HO_525001; clear HO531; clear HO535; clear BK523; clear BK524; clear BK537; clear BK538; clear HB; have HO_525001 := n0_; have HO531 := n1_; have HO535 := n2_; have BK523 := n3_; have BK524 := n4_; have BK537 := n5_; have BK538 := n6_; have HB := n7_; clear n0_ n1_ n2_ n3_ n4_ n5_ n6_ n7_; (try clear hb); (try clear hb2); (try clear hk); (try clear hi); obtain ⟨hcz110_0, hcz110_1, hfz110_0, hfz110_1⟩ := c2_ BK538) | (go_at_call 24; (with_reducible refine (whole_Sign.calls kj5 t532 _ _ t533 t541 _ ?side1 ?side2 A90.out).mono ?_); (case side1 => exact kc_ (Kd.R_reads' HO535.out).2.2); (case side2 => exact (Kd.R_reads' HO535.out).2.1); rintro e w111 ⟨rfl, hb⟩; have n0_ := Aside0.mk (Kd.V_below (by (with_reducible repeat (first | apply Kd.V_alloc | apply Kd.V_drewN | apply Kd.V_drew)); exact HO_525001.out) hb); have n1_ := Aside0.mk (Kd.R_below (kr_ HO531.out) hb); have n2_ := Aside0.mk (Kd.R_below (kr_ HO535.out) hb); have n3_ := kq_ BK523 hb; have n4_ := kq_ BK524 hb; have n5_ := kq_ BK537 hb; have n6_ := kq_ BK538 hb; have n7_ := bq_ HB hb; clear HO_525001; clear HO531; clear HO535; clear BK523; clear BK524; clear BK537; clear BK538; clear HB; have HO_525001 := n0_; have HO531 := n1_; have HO535 := n2_; have BK523 := n3_; have BK524 := n4_; have BK537 := n5_; have BK538 := n6_; have HB := n7_; clear n0_ n1_ n2_ n3_ n4_ n5_ n6_ n7_; (try clear hb); (try clear hb2); (try clear hk); (try clear hi)))
       go_ret
       exact ⟨rf_, bw_ HB.out⟩
      ·rw [if_neg c89] at H
       have c89b0 : (t540 == 0) = false := beq_eq_false_iff_ne.mpr c89
       have c89b1 : (t540 != 0) = true := bne_iff_ne.mpr c89
       exact absurd ((Option.some.inj H).trans HRT_.out) (by simp)
     ·rw [if_neg c87] at H
      have c87b0 : (t539 == 0) = false := beq_eq_false_iff_ne.mpr c87
      have c87b1 : (t539 != 0) = true := bne_iff_ne.mpr c87
      exact absurd ((Option.some.inj H).trans HRT_.out) (by simp)


end Go.Proofs.Ytbejmpocgnldnaa.PZ
