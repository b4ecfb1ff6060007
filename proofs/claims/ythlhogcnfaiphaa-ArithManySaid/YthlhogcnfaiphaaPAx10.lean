-- Laid by this work's own program; Lean checks it.
import Derived.Test.YthlhogcnfaiphaaPAx0
import Derived.Test.YthlhogcnfaiphaaPAx2
import Derived.Test.YthlhogcnfaiphaaPAx8
import Derived.Test.YthlhogcnfaiphaaPAx9
namespace Go.Proofs.Ythlhogcnfaiphaa.PA
open Go.RowKit Go.Proofs.YthlhogcnfaiphaaW.PrintWords Go.Proofs.YthlhogcnfaiphaaW.PrintLast Go.Proofs.YthlhogcnfaiphaaW.PrintMore
attribute [local go_sem] max2_int min2_int max_two min_two max_three min_three max_four min_four   -- for this text's walks alone
set_option linter.unusedVariables false
set_option linter.unusedSimpArgs false

attribute [local go_sem ↓ high] isSome_set_
/-! ### pelorusref03_Make: function 54 -/
set_option maxHeartbeats 8000000 in
set_option maxRecDepth 100000 in
theorem pelorusref03_Make.calls (k : Nat) (a0_0 : Bool) (A0_1 : Option Addr) (c0_1 : Nat) (l0_1 : List Int) (a1 : Int) (r1 : Bool) (r2 : List Int) (r3 : Int) (w : World) (hr0_1 : Kd.C (Kd.int .u32) w A0_1 l0_1.length l0_1) (hc0_1 : l0_1.length ≤ c0_1) (h : pelorusref03_Make.f k a0_0 l0_1 a1 = some (r1, r2, r3)) :
  Calls Try.prog 54 #[.agg #[.bool a0_0, .slice A0_1 l0_1.length c0_1], .int .i64 a1] w fun e w' => ∃ v1_ : Value, e = .returned (.agg #[.bool r1, v1_, .int .i64 r3]) ∧ Kd.R (Kd.int .u32) 68 w' w.heap.size (fun _ => True) v1_ r2 ∧ Below w.heap.size w w' := by
 have hu48 := Try.underlying48
 have hu50 := Try.underlying50
 have HR0_1 := Aside0.mk hr0_1
 have HC0_1 := Aside0.mk hc0_1
 clear hr0_1 hc0_1
 have HB := Aside0.mk (Below.refl w.heap.size w)
 have H : ((pelorusref02_Make.f k a0_0 l0_1).bind fun bt481 => (if (bt481.2.length : Int) = 0 then (pelorusref03_Make.j0 k a1 true bt481.1 bt481.2) else (if a1 < (-4194304) then (pelorusref03_Make.j0 k a1 true bt481.1 bt481.2) else (pelorusref03_Make.j0 k a1 (decide (a1 > 4194304)) bt481.1 bt481.2)))) = some (r1, r2, r3) := h
 clear h
 replace H := Option.bind_eq_some_iff.mp H
 obtain ⟨⟨t481, t482⟩, A30, H⟩ := H
 (try dsimp only at H)
 have A3 := Aside0.mk A30
 clear A30
 have HC4 := Aside0.mk H
 clear H
 go_enter Try.func54, Try.ntmps54
 go_upto_region 2 with (first | ((with_reducible refine gate_dst (N := 2) rfl ?_); refine bx_ 2 #[.bool a0_0, .slice A0_1 l0_1.length c0_1] 48 ?_; intro gb479 hg w5 hbox hb; have n0_ := bq_ HB hb; have n1_ := Aside0.mk (hbox); have n2_ := ge_ hg HB; have n3_ := ge_ hg HB; clear HB; have HB := n0_; have BK479 := n1_; have GW479 := n2_; have GE479 := n3_; clear n0_ n1_ n2_ n3_; clear hb hbox hg) | ((with_reducible refine gate_dst (N := 4) rfl ?_); refine bx_ 4 #[.bool false, .slice none 0 0, .int .i64 0] 50 ?_; intro gb480 hg w6 hbox hb; have n0_ := kq_ BK479 hb; have n1_ := bq_ HB hb; have n2_ := Aside0.mk (hbox); have n3_ := ge_ hg HB; have n4_ := ge_ hg HB; have n5_ := nb_ hg BK479; have n6_ := nc_ hg BK479; clear BK479; clear HB; have BK479 := n0_; have HB := n1_; have BK480 := n2_; have GW480 := n3_; have GE480 := n4_; have NB479_480 := n5_; have NB480_479 := n6_; clear n0_ n1_ n2_ n3_ n4_ n5_ n6_; clear hb hbox hg; have hnb7 := NB479_480.out; have hnc7 := NB480_479.out; obtain ⟨hcz8_0, hcz8_1, hfz8_0, hfz8_1⟩ := c2_ BK479) | ((with_reducible refine gate_callee (f := 55) rfl ?_); refine gl_ (some 12) Try.func55 #[.bool a0_0, .slice A0_1 l0_1.length c0_1] ?_; (with_reducible refine (pelorusref02_Make.calls k a0_0 _ _ l0_1 t481 t482 _ ?side1 ?side2 A3.out).mono ?_); (case side1 => repeat (first | exact (Kd.C_below HR0_1.out HB.out) | (with_reducible refine Kd.C_alloc ?_ _) | (with_reducible refine Kd.C_drewN ?_ _) | (with_reducible refine Kd.C_drew ?_))); (case side2 => exact HC0_1.out); rintro e w9 ⟨v483, rfl, ho0, hb⟩; refine ⟨_, rfl, ?_⟩; have n0_ := Aside0.mk (Kd.R_lower ho0 (below_size (bw_ HB.out))); have n1_ := kq_ BK479 hb; have n2_ := kq_ BK480 hb; have n3_ := bq_ HB hb; clear BK479; clear BK480; clear HB; have HO484 := n0_; have BK479 := n1_; have BK480 := n2_; have HB := n3_; clear n0_ n1_ n2_ n3_; (try clear hb); (try clear hb2); (try clear hk); (try clear hi); (try clear ho0)) | ((with_reducible refine gate_dst (N := 5) rfl ?_); refine bx_ 5 #[.bool false, .slice none 0 0] 48 ?_; intro gb485 hg w10 hbox hb; have n0_ := Aside0.mk (Kd.R_below (by (with_reducible repeat (first | apply Kd.R_alloc | apply Kd.R_drewN | apply Kd.R_drew)); exact HO484.out) hb); have n1_ := kq_ BK479 hb; have n2_ := kq_ BK480 hb; have n3_ := bq_ HB hb; have n4_ := Aside0.mk (hbox); have n5_ := ge_ hg HB; have n6_ := ge_ hg HB; have n7_ := nb_ hg BK479; have n8_ := nc_ hg BK479; have n9_ := nb_ hg BK480; have n10_ := nc_ hg BK480; clear HO484; clear BK479; clear BK480; clear HB; have HO484 := n0_; have BK479 := n1_; have BK480 := n2_; have HB := n3_; have BK485 := n4_; have GW485 := n5_; have GE485 := n6_; have NB479_485 := n7_; have NB485_479 := n8_; have NB480_485 := n9_; have NB485_480 := n10_; clear n0_ n1_ n2_ n3_ n4_ n5_ n6_ n7_ n8_ n9_ n10_; clear hb hbox hg; have hnb11 := NB485_479.out; have hnc11 := NB479_485.out; have hnb12 := NB485_480.out; have hnc12 := NB480_485.out; obtain ⟨hcz13_0, hcz13_1, hfz13_0, hfz13_1⟩ := c2_ BK485; obtain ⟨Ao14, co14, eo14⟩ := Kd.R_slice HO484.out; subst eo14))
 (try simp only [Act.put, List.setIfInBounds_toArray, List.set_cons_zero, List.set_cons_succ])
 go_cut [24] (fun v24 wc => ∃ (kq : Nat) (x24_3 : Bool), v24 = .bool x24_3 ∧ Aside0 (pelorusref03_Make.j0 kq a1 x24_3 t481 t482 = some (r1, r2, r3)) ∧ Aside0 (kq ≤ k) ∧ Aside0 (Kd.R (Kd.int .u32) 68 wc w.heap.size (fun _ => True) (.slice Ao14 t482.length co14) t482) ∧ Aside0 (wc.heap[gb479]? = some (.cells #[.bool a0_0, (.slice A0_1 l0_1.length c0_1)] 48 (0, 0))) ∧ Aside0 (wc.heap[gb480]? = some (.cells #[.bool false, (.slice none 0 0), .int .i64 0] 50 (0, 0))) ∧ Aside0 (wc.heap[gb485]? = some (.cells #[.bool t481, (.slice Ao14 t482.length co14)] 48 (0, 0))) ∧ Aside0 (Below w.heap.size w wc))
 case first =>
  have H := HC4.out
  clear HC4
  by_cases c15 : (t482.length : Int) = 0
  ·rw [if_pos c15] at H
   have c15b0 : ((t482.length : Int) == 0) = true := beq_iff_eq.mpr c15
   have c15b1 : ((t482.length : Int) != 0) = false := bne_eq_false_iff_eq.mpr c15
   clear c15
   (first | rw [c15b0] | (simp only [i64_w, i32_w]; rw [c15b0]) | skip)
   have H' := Aside0.mk H
   clear H
   have hnb16 := NB485_479.out
   have hnc16 := NB479_485.out
   have hnb17 := NB485_480.out
   have hnc17 := NB480_485.out
   obtain ⟨hcz18_0, hcz18_1, hfz18_0, hfz18_1⟩ := c2_ BK485
   go_wp2
   go_meet
   case rel => exact ⟨_, (true), (by first | rfl | (simp; done) | (simp [*]; done)), H', ⟨by first | omega | exact Nat.le_refl _⟩, ⟨by (with_reducible repeat (first | apply Kd.R_alloc | apply Kd.R_drewN | apply Kd.R_drew)); exact Kd.R_mono (Kd.R_far (p := ⟨gb485, 1, none⟩) (Kd.R_far (p := ⟨gb485, 0, none⟩) (Kd.R_types HO484.out BK485.out (by decide)) (fun _ hk => hk.2) (.bool t481)) (fun _ hk => hk.2) (.slice Ao14 t482.length co14)) (fun _ hk => trivial)⟩, ⟨by refine kb_ ?_; refine bf_ NB479_485 ?_; refine bf_ NB479_485 ?_; exact BK479.out⟩, ⟨by refine kb_ ?_; refine bf_ NB480_485 ?_; refine bf_ NB480_485 ?_; exact BK480.out⟩, ⟨by refine kb_ ?_; refine bp_ #[.bool t481, .slice none 0 0] 1 ?_; refine bp_ #[.bool false, .slice none 0 0] 0 ?_; exact BK485.out⟩, ⟨bw_ HB.out⟩⟩
  ·rw [if_neg c15] at H
   have c15b0 : ((t482.length : Int) == 0) = false := beq_eq_false_iff_ne.mpr c15
   have c15b1 : ((t482.length : Int) != 0) = true := bne_iff_ne.mpr c15
   have c15b2 : ¬ (t482 = []) := fun h_ => c15 (by rw [h_]; rfl)
   (first | rw [c15b0] | (simp only [i64_w, i32_w]; rw [c15b0]) | skip)
   by_cases c19 : a1 < (-4194304)
   ·rw [if_pos c19] at H
    have c19b0 : decide (a1 < (-4194304)) = true := decide_eq_true c19
    clear c19
    have H' := Aside0.mk H
    clear H
    have hnb20 := NB485_479.out
    have hnc20 := NB479_485.out
    have hnb21 := NB485_480.out
    have hnc21 := NB480_485.out
    obtain ⟨hcz22_0, hcz22_1, hfz22_0, hfz22_1⟩ := c2_ BK485
    go_wp2
    go_meet
    case rel => exact ⟨_, (true), (by first | rfl | (simp; done) | (simp [*]; done)), H', ⟨by first | omega | exact Nat.le_refl _⟩, ⟨by (with_reducible repeat (first | apply Kd.R_alloc | apply Kd.R_drewN | apply Kd.R_drew)); exact Kd.R_mono (Kd.R_far (p := ⟨gb485, 1, none⟩) (Kd.R_far (p := ⟨gb485, 0, none⟩) (Kd.R_types HO484.out BK485.out (by decide)) (fun _ hk => hk.2) (.bool t481)) (fun _ hk => hk.2) (.slice Ao14 t482.length co14)) (fun _ hk => trivial)⟩, ⟨by refine kb_ ?_; refine bf_ NB479_485 ?_; refine bf_ NB479_485 ?_; exact BK479.out⟩, ⟨by refine kb_ ?_; refine bf_ NB480_485 ?_; refine bf_ NB480_485 ?_; exact BK480.out⟩, ⟨by refine kb_ ?_; refine bp_ #[.bool t481, .slice none 0 0] 1 ?_; refine bp_ #[.bool false, .slice none 0 0] 0 ?_; exact BK485.out⟩, ⟨bw_ HB.out⟩⟩
   ·rw [if_neg c19] at H
    have c19b0 : decide (a1 < (-4194304)) = false := decide_eq_false c19
    clear c19
    have H' := Aside0.mk H
    clear H
    have hnb23 := NB485_479.out
    have hnc23 := NB479_485.out
    have hnb24 := NB485_480.out
    have hnc24 := NB480_485.out
    obtain ⟨hcz25_0, hcz25_1, hfz25_0, hfz25_1⟩ := c2_ BK485
    go_wp2
    go_meet
    case rel => exact ⟨_, (decide (a1 > 4194304)), (by first | rfl | (simp; done) | (simp [*]; done)), H', ⟨by first | omega | exact Nat.le_refl _⟩, ⟨by (with_reducible repeat (first | apply Kd.R_alloc | apply Kd.R_drewN | apply Kd.R_drew)); exact Kd.R_mono (Kd.R_far (p := ⟨gb485, 1, none⟩) (Kd.R_far (p := ⟨gb485, 0, none⟩) (Kd.R_types HO484.out BK485.out (by decide)) (fun _ hk => hk.2) (.bool t481)) (fun _ hk => hk.2) (.slice Ao14 t482.length co14)) (fun _ hk => trivial)⟩, ⟨by refine kb_ ?_; refine bf_ NB479_485 ?_; refine bf_ NB479_485 ?_; exact BK479.out⟩, ⟨by refine kb_ ?_; refine bf_ NB480_485 ?_; refine bf_ NB480_485 ?_; exact BK480.out⟩, ⟨by refine kb_ ?_; refine bp_ #[.bool t481, .slice none 0 0] 1 ?_; refine bp_ #[.bool false, .slice none 0 0] 0 ?_; exact BK485.out⟩, ⟨bw_ HB.out⟩⟩
 case rest =>
  clear HC4
  try clear c1
  try clear c2
  try clear p2
  try clear c5
  try clear c7
  try clear c11
  try clear c12
  try clear c15
  try clear c15b0
  try clear c15b1
  try clear c15b2
  try clear c16
  try clear c17
  try clear c19
  try clear c19b0
  try clear c20
  try clear c21
  try clear c23
  try clear c24
  try clear hcz13_0 hcz13_1
  try clear hcz18_0 hcz18_1
  try clear hcz22_0 hcz22_1
  try clear hcz25_0 hcz25_1
  try clear hcz8_0 hcz8_1
  try clear hfz13_0 hfz13_1
  try clear hfz18_0 hfz18_1
  try clear hfz22_0 hfz22_1
  try clear hfz25_0 hfz25_1
  try clear hfz8_0 hfz8_1
  obtain ⟨kq, x24_3, rfl, HA, HJ3, HO_486001, BK479, BK480, BK485, HB⟩ := hcut
  cases kq with
  | zero => exact absurd HA.out (by simp [pelorusref03_Make.j0])
  | succ kj3 =>
   have H := HA.out
   clear HA
   simp only [pelorusref03_Make.j0] at H
   by_cases c26 : x24_3 = true
   ·subst c26
    have H1 : (some (false, ([] : List Int), 0)) = some (r1, r2, r3) := by rw [if_pos rfl] at H; exact H
    clear H
    have H := H1
    clear H1
    simp only [Option.some.injEq, Prod.mk.injEq] at H
    obtain ⟨rfl, rfl, rfl⟩ := H
    have hnb27 := NB480_479.out
    have hnc27 := NB479_480.out
    have hnb28 := NB480_485.out
    have hnc28 := NB485_480.out
    obtain ⟨hcz29_0, hcz29_1, hcz29_2, hfz29_0, hfz29_1, hfz29_2⟩ := c3_ BK480
    go_wp2
    refine bodyPost_ret (results_cell_row rfl _ _ gb480 50 #[.bool false, .slice none 0 0, .int .i64 0] (0, 0) _ rfl (by refine kb_ ?_; refine bp_ #[.bool false, .slice none 0 0, .int .i64 0] 2 ?_; refine bp_ #[.bool false, .slice none 0 0, .int .i64 0] 1 ?_; refine bp_ #[.bool false, .slice none 0 0, .int .i64 0] 0 ?_; exact BK480.out) Try.underlying50 rfl (by kernel_rfl)) rfl ?_
    exact ⟨_, rf_, by first | exact Kd.R_nil _ _ _ _ _ | exact Kd.N_nil _ _ _ _ _ | exact Kd.V_nil _ _ _ _ _ | exact Kd.Q_nil _ _ _ _ _ | exact Kd.S_nil _ _ _ _ _, bw_ HB.out⟩
   ·replace c26 := Bool.eq_false_iff.mpr c26
    subst c26
    have H1 : (pelorusref03_Make.l0 kj3 a1 0 t481 t482) = some (r1, r2, r3) := by rw [if_neg (show ¬ (false = true) by decide)] at H; exact H
    clear H
    have H := H1
    clear H1
    have H' := Aside0.mk H
    clear H
    go_wp2
    go_loopg [1, 6] kj3 (fun kq v1 v6 w' => ∃ (x1_2 : Int) (x6_2 : Int) (x486000_2 : Bool) (x486001_2 : List Int) (u486001 : Value), v1 = .int .i64 x1_2 ∧ v6 = .int .i64 x6_2 ∧ Aside0 (pelorusref03_Make.l0 kq x1_2 x6_2 x486000_2 x486001_2 = some (r1, r2, r3)) ∧ Aside0 (kq ≤ kj3) ∧ Aside0 (Kd.R (Kd.int .u32) 68 w' w.heap.size (fun _ => True) u486001 x486001_2) ∧ Aside0 (w'.heap[gb479]? = some (.cells #[.bool a0_0, (.slice A0_1 l0_1.length c0_1)] 48 (0, 0))) ∧ Aside0 (w'.heap[gb480]? = some (.cells #[.bool false, (.slice none 0 0), .int .i64 0] 50 (0, 0))) ∧ Aside0 (w'.heap[gb485]? = some (.cells #[.bool x486000_2, u486001] 48 (0, 0))) ∧ Aside0 (Below w.heap.size w w'))
    case atStart => exact ⟨(a1), (0), (t481), (t482), (.slice Ao14 t482.length co14), (by first | rfl | (simp; done) | (simp [*]; done)), (by first | rfl | (simp; done) | (simp [*]; done)), H', ⟨Nat.le_refl _⟩, ⟨by (with_reducible repeat (first | apply Kd.R_alloc | apply Kd.R_drewN | apply Kd.R_drew)); exact HO_486001.out⟩, ⟨kb_ BK479.out⟩, ⟨kb_ BK480.out⟩, ⟨kb_ BK485.out⟩, ⟨bw_ HB.out⟩⟩
    case round =>
     clear H'
     try clear c1
     try clear c2
     try clear p2
     try clear c5
     try clear c7
     try clear c11
     try clear c12
     try clear c15
     try clear c15b0
     try clear c15b1
     try clear c15b2
     try clear c16
     try clear c17
     try clear c19
     try clear c19b0
     try clear c20
     try clear c21
     try clear c23
     try clear c24
     try clear c26
     try clear c27
     try clear c28
     try clear hcz13_0 hcz13_1
     try clear hcz18_0 hcz18_1
     try clear hcz22_0 hcz22_1
     try clear hcz25_0 hcz25_1
     try clear hcz29_0 hcz29_1 hcz29_2
     try clear hcz8_0 hcz8_1
     try clear hfz13_0 hfz13_1
     try clear hfz18_0 hfz18_1
     try clear hfz22_0 hfz22_1
     try clear hfz25_0 hfz25_1
     try clear hfz29_0 hfz29_1 hfz29_2
     try clear hfz8_0 hfz8_1
     try clear p2
     obtain ⟨x1_2, x6_2, x486000_2, x486001_2, u486001, rfl, rfl, HA, HK2, HO_486001, BK479, BK480, BK485, HB⟩ := hrel
     cases gk with
     | zero => exact absurd HA.out (by simp [pelorusref03_Make.l0])
     | succ k2 =>
      have H := HA.out
      clear HA
      simp only [pelorusref03_Make.l0] at H
      by_cases c30 : x6_2 < 4000000
      ·rw [if_pos c30] at H
       have c30b0 : decide (x6_2 < 4000000) = true := decide_eq_true c30
       clear c30
       replace H := Option.bind_eq_some_iff.mp H
       obtain ⟨t486, A310, H⟩ := H
       (try dsimp only at H)
       have A31 := Aside0.mk A310
       clear A310
       by_cases c32 : t486 = true
       ·subst c32
        have H1 : ((pelorusref01_Shr.f k2 x486001_2 1).bind fun t487 => (pelorusref03_Make.l0 k2 (wrap64 (x1_2 + 1)) (wrap64 (x6_2 + 1)) x486000_2 t487)) = some (r1, r2, r3) := by rw [if_pos rfl] at H; exact H
        clear H
        have H := H1
        clear H1
        replace H := Option.bind_eq_some_iff.mp H
        obtain ⟨t487, A330, H⟩ := H
        (try dsimp only at H)
        have A33 := Aside0.mk A330
        clear A330
        have H' := Aside0.mk H
        clear H
        have hnb34 := NB485_479.out
        have hnc34 := NB479_485.out
        have hnb35 := NB485_480.out
        have hnc35 := NB480_485.out
        obtain ⟨hcz36_0, hcz36_1, hfz36_0, hfz36_1⟩ := c2_ BK485
        obtain ⟨Ao37, co37, eo37⟩ := Kd.R_slice HO_486001.out
        subst eo37
        try go_wp2_with (first | ((with_reducible refine gate_callee (f := 68) rfl ?_); refine gl_ (some 32) Try.func68 #[.slice Ao37 x486001_2.length co37] ?_; (with_reducible refine (pelorusref03_even.calls _ _ x486001_2 true _ ?side1 ?side2 A31.out).mono ?_); (case side1 => repeat (first | exact (Kd.R_reads' HO_486001.out).2.2 | (with_reducible refine Kd.C_alloc ?_ _) | (with_reducible refine Kd.C_drewN ?_ _) | (with_reducible refine Kd.C_drew ?_))); (case side2 => exact (Kd.R_reads' HO_486001.out).2.1); rintro e w' ⟨rfl, ⟨nd, rfl⟩⟩; refine ⟨_, rfl, ?_⟩; (try (rw [drewN_self wr]; generalize hq_ : World.drewN wr _ = wr; have n0_ : Aside0 (Kd.R (Kd.int .u32) 68 wr w.heap.size (fun _ => True) (.slice Ao37 x486001_2.length co37) x486001_2) := ⟨by rw [← hq_]; exact (by (with_reducible repeat (first | apply Kd.R_alloc | apply Kd.R_drewN | apply Kd.R_drew)); exact HO_486001.out)⟩; have n1_ : Aside0 (wr.heap[gb479]? = some (.cells #[.bool a0_0, .slice A0_1 l0_1.length c0_1] 48 (0, 0))) := ⟨by rw [← hq_]; exact (kb_ BK479.out)⟩; have n2_ : Aside0 (wr.heap[gb480]? = some (.cells #[.bool false, .slice none 0 0, .int .i64 0] 50 (0, 0))) := ⟨by rw [← hq_]; exact (kb_ BK480.out)⟩; have n3_ : Aside0 (wr.heap[gb485]? = some (.cells #[.bool x486000_2, .slice Ao37 x486001_2.length co37] 48 (0, 0))) := ⟨by rw [← hq_]; exact (kb_ BK485.out)⟩; have n4_ : Aside0 (Below w.heap.size w wr) := ⟨by rw [← hq_]; exact (bw_ HB.out)⟩; clear HO_486001 BK479 BK480 BK485 HB hq_; have HO_486001 := n0_; have BK479 := n1_; have BK480 := n2_; have BK485 := n3_; have HB := n4_; clear n0_ n1_ n2_ n3_ n4_)); (try (obtain ⟨hcz36_0, hcz36_1, hfz36_0, hfz36_1⟩ := c2_ BK485))))
        have n0_ := Aside0.mk (Kd.R_drew HO_486001.out)
        have n1_ := Aside0.mk (blk_drew BK479.out)
        have n2_ := Aside0.mk (blk_drew BK480.out)
        have n3_ := Aside0.mk (blk_drew BK485.out)
        have n4_ := Aside0.mk (below_drew1 HB.out)
        clear HO_486001
        clear BK479
        clear BK480
        clear BK485
        clear HB
        have HO_486001 := n0_
        have BK479 := n1_
        have BK480 := n2_
        have BK485 := n3_
        have HB := n4_
        clear n0_ n1_ n2_ n3_ n4_
        refine start_ (n := 7) (S := fun w' => w'.cell? ⟨gb485, 0, none⟩ = some (.bool x486000_2) ∧ w'.cell? ⟨gb485, 1, none⟩ = some (.slice Ao37 x486001_2.length co37)) (ds := [6]) #[false, false, false, false, false, false, false] (by kernel_rfl) rfl rfl ⟨(blk_cell BK485.out 0).trans rfl, (blk_cell BK485.out 1).trans rfl⟩ (fun hHeld => ?_)
        generalize wr.drew = w38 at HO_486001 BK479 BK480 BK485 HB hHeld ⊢
        refine pure_ (i := 0) (N := some 35) (v := ?_) (a' := ?_) #[true, false, false, false, false, false, false] rfl rfl (by kernel_rfl) (fun _ _ _ h => h) (Or.inl ⟨by rfl, ?_⟩) ?_ ?_
        rotate_left
        ·intro w'
         go_simp
         with_reducible rfl
        rotate_left
        ·exact pt_
        refine pure_ (i := 2) (N := some 37) (v := ?_) (a' := ?_) #[true, false, true, false, false, false, false] rfl rfl (by kernel_rfl) (fun _ _ _ h => h) (Or.inl ⟨by rfl, ?_⟩) ?_ ?_
        rotate_left
        ·intro w'
         go_simp
         with_reducible rfl
        rotate_left
        ·exact pt_
        refine take_ (i := 1) (N := some 36) (v := ?_) (a' := ?_) #[true, true, true, false, false, false, false] rfl rfl (by kernel_rfl) (fun _ _ _ h => h) (Or.inl ⟨by rfl, ?_⟩) hHeld ?_ ?_
        rotate_left
        ·rintro w' ⟨s0, s1⟩
         go_simp
         with_reducible rfl
        rotate_left
        ·exact pt_
        refine take_ (i := 3) (N := some 38) (v := ?_) (a' := ?_) #[true, true, true, true, false, false, false] rfl rfl (by kernel_rfl) (fun _ _ _ h => h) (Or.inl ⟨by rfl, ?_⟩) hHeld ?_ ?_
        rotate_left
        ·rintro w' ⟨s0, s1⟩
         go_simp
         with_reducible rfl
        rotate_left
        ·exact pt_
        refine one_ (i := 4) (N := some 39) #[true, true, true, true, true, false, false] rfl rfl (by kernel_rfl) (by decide) (fun K hK => ?_)
        refine gs_ Try.func61 #[.slice Ao37 x486001_2.length co37, .int .i64 1] ?_
        with_reducible refine (pelorusref01_Shr.calls k2 _ _ x486001_2 1 t487 _ ?side1 ?side2 A33.out).mono ?_
        (case side1 => repeat (first | exact (Kd.R_reads' HO_486001.out).2.2 | (with_reducible refine Kd.C_alloc ?_ _) | (with_reducible refine Kd.C_drewN ?_ _) | (with_reducible refine Kd.C_drew ?_)))
        (case side2 => exact (Kd.R_reads' HO_486001.out).2.1)
        rintro e w39 ⟨v488, rfl, ho0, hb⟩
        refine ⟨_, rfl, ?_⟩
        have n0_ := Aside0.mk (Kd.R_elder' (by (with_reducible repeat (first | apply Kd.R_alloc | apply Kd.R_drewN | apply Kd.R_drew)); exact HO_486001.out) (Kd.R_base ho0) hb)
        have n1_ := Aside0.mk (Kd.R_lower (Kd.R_new' ho0 (Kd.R_lt (by (with_reducible repeat (first | apply Kd.R_alloc | apply Kd.R_drewN | apply Kd.R_drew)); exact HO_486001.out))) (below_size (bw_ HB.out)))
        have n2_ := kq_ BK479 hb
        have n3_ := kq_ BK480 hb
        have n4_ := kq_ BK485 hb
        have n5_ := bq_ HB hb
        clear HO_486001
        clear BK479
        clear BK480
        clear BK485
        clear HB
        have HO_486001 := n0_
        have HO489 := n1_
        have BK479 := n2_
        have BK480 := n3_
        have BK485 := n4_
        have HB := n5_
        clear n0_ n1_ n2_ n3_ n4_ n5_
        (try clear hb)
        (try clear hb2)
        (try clear hk)
        (try clear hi)
        (try clear ho0)
        obtain ⟨Ao40, co40, eo40⟩ := Kd.R_slice HO489.out
        (first | subst eo40 | (injection eo40 with f1_ f2_ f3_; have f4_ := f1_.symm; have f5_ := f3_.symm; clear f1_ f2_ f3_; subst f4_; subst f5_))
        refine hK.out _ _ ⟨(blk_cell BK485.out 0).trans rfl, (blk_cell BK485.out 1).trans rfl⟩ (fun hHeld => ?_)
        clear hK K
        refine norm_ (a' := ?_) ?_ ?_
        rotate_left
        ·show Act.put _ (some 39) _ = _
         exact pt_
        refine pure_ (i := 5) (N := some 40) (v := ?_) (a' := ?_) #[true, true, true, true, true, true, false] rfl rfl (by kernel_rfl) (fun _ _ _ h => h) (Or.inl ⟨by rfl, ?_⟩) ?_ ?_
        rotate_left
        ·intro w'
         go_simp
         with_reducible rfl
        rotate_left
        ·exact pt_
        refine last_ (i := 6) (N := none) #[true, true, true, true, true, true, true] rfl rfl (by kernel_rfl) (by decide) (fun K hK => ?_)
        have hs41 : w39.cell? ⟨gb485, 0, none⟩ = some (.bool x486000_2) := (blk_cell BK485.out 0).trans rfl
        have hfs41 := fz_ BK485 0
        have hns41_0 := NB479_485.out
        have hns41_1 := NB480_485.out
        have hms41_0 := NB485_479.out
        have hms41_1 := NB485_480.out
        have hs42 : w39.cell? ⟨gb485, 1, none⟩ = some (.slice Ao37 x486001_2.length co37) := (blk_cell BK485.out 1).trans rfl
        have hfs42 := fz_ BK485 1
        have hns42_0 := NB479_485.out
        have hns42_1 := NB480_485.out
        have hms42_0 := NB485_479.out
        have hms42_1 := NB485_480.out
        refine skip_ (w1 := ?_) (by rfl) rfl ?_ ?_
        rotate_left
        ·go_simp
         rfl
        refine hK.out _ _ ?_
        clear hK K
        refine done_ (by kernel_rfl) ?_
        try go_wp2
        go_roundg k2
        case measure => have := HJ3.out; have := HK2.out; omega
        case rel => exact ⟨(wrap64 (x1_2 + 1)), (wrap64 (x6_2 + 1)), (x486000_2), (t487), (.slice Ao40 t487.length co40), (by first | rfl | (simp; done) | (simp [*]; done)), (by first | rfl | (simp; done) | (simp [*]; done)), H', ⟨by have := HJ3.out; have := HK2.out; omega⟩, ⟨by (with_reducible repeat (first | apply Kd.R_alloc | apply Kd.R_drewN | apply Kd.R_drew)); exact Kd.R_mono (Kd.R_far (p := ⟨gb485, 1, none⟩) (Kd.R_far (p := ⟨gb485, 0, none⟩) (Kd.R_types HO489.out BK485.out (by decide)) (fun _ hk => hk.2) (.bool x486000_2)) (fun _ hk => hk.2) (.slice Ao40 t487.length co40)) (fun _ hk => trivial)⟩, ⟨by refine kb_ ?_; refine bf_ NB479_485 ?_; refine bf_ NB479_485 ?_; exact BK479.out⟩, ⟨by refine kb_ ?_; refine bf_ NB480_485 ?_; refine bf_ NB480_485 ?_; exact BK480.out⟩, ⟨by refine kb_ ?_; refine bp_ #[.bool x486000_2, .slice Ao37 x486001_2.length co37] 1 ?_; refine bp_ #[.bool x486000_2, .slice Ao37 x486001_2.length co37] 0 ?_; exact BK485.out⟩, ⟨bw_ HB.out⟩⟩
       ·replace c32 := Bool.eq_false_iff.mpr c32
        subst c32
        have H1 : (if x1_2 > 4194304 then (some (false, ([] : List Int), 0)) else (some (x486000_2, x486001_2, x1_2))) = some (r1, r2, r3) := by rw [if_neg (show ¬ (false = true) by decide)] at H; exact H
        clear H
        have H := H1
        clear H1
        by_cases c43 : x1_2 > 4194304
        ·rw [if_pos c43] at H
         have c43b0 : decide (4194304 < x1_2) = true := decide_eq_true c43
         clear c43
         simp only [Option.some.injEq, Prod.mk.injEq] at H
         obtain ⟨rfl, rfl, rfl⟩ := H
         have hnb44 := NB485_479.out
         have hnc44 := NB479_485.out
         have hnb45 := NB485_480.out
         have hnc45 := NB480_485.out
         obtain ⟨hcz46_0, hcz46_1, hfz46_0, hfz46_1⟩ := c2_ BK485
         obtain ⟨Ao47, co47, eo47⟩ := Kd.R_slice HO_486001.out
         subst eo47
         go_wp2_with (first | ((with_reducible refine gate_callee (f := 68) rfl ?_); refine gl_ (some 32) Try.func68 #[.slice Ao47 x486001_2.length co47] ?_; (with_reducible refine (pelorusref03_even.calls _ _ x486001_2 false _ ?side1 ?side2 A31.out).mono ?_); (case side1 => repeat (first | exact (Kd.R_reads' HO_486001.out).2.2 | (with_reducible refine Kd.C_alloc ?_ _) | (with_reducible refine Kd.C_drewN ?_ _) | (with_reducible refine Kd.C_drew ?_))); (case side2 => exact (Kd.R_reads' HO_486001.out).2.1); rintro e w' ⟨rfl, ⟨nd, rfl⟩⟩; refine ⟨_, rfl, ?_⟩; (try (rw [drewN_self wr]; generalize hq_ : World.drewN wr _ = wr; have n0_ : Aside0 (Kd.R (Kd.int .u32) 68 wr w.heap.size (fun _ => True) (.slice Ao47 x486001_2.length co47) x486001_2) := ⟨by rw [← hq_]; exact (by (with_reducible repeat (first | apply Kd.R_alloc | apply Kd.R_drewN | apply Kd.R_drew)); exact HO_486001.out)⟩; have n1_ : Aside0 (wr.heap[gb479]? = some (.cells #[.bool a0_0, .slice A0_1 l0_1.length c0_1] 48 (0, 0))) := ⟨by rw [← hq_]; exact (kb_ BK479.out)⟩; have n2_ : Aside0 (wr.heap[gb480]? = some (.cells #[.bool false, .slice none 0 0, .int .i64 0] 50 (0, 0))) := ⟨by rw [← hq_]; exact (kb_ BK480.out)⟩; have n3_ : Aside0 (wr.heap[gb485]? = some (.cells #[.bool x486000_2, .slice Ao47 x486001_2.length co47] 48 (0, 0))) := ⟨by rw [← hq_]; exact (kb_ BK485.out)⟩; have n4_ : Aside0 (Below w.heap.size w wr) := ⟨by rw [← hq_]; exact (bw_ HB.out)⟩; clear HO_486001 BK479 BK480 BK485 HB hq_; have HO_486001 := n0_; have BK479 := n1_; have BK480 := n2_; have BK485 := n3_; have HB := n4_; clear n0_ n1_ n2_ n3_ n4_)); (try (obtain ⟨hcz46_0, hcz46_1, hfz46_0, hfz46_1⟩ := c2_ BK485)); have hnb48 := NB480_479.out; have hnc48 := NB479_480.out; obtain ⟨hcz49_0, hcz49_1, hcz49_2, hfz49_0, hfz49_1, hfz49_2⟩ := c3_ BK480))
         refine bodyPost_ret (results_cell_row rfl _ _ gb480 50 #[.bool false, .slice none 0 0, .int .i64 0] (0, 0) _ rfl (by refine kb_ ?_; refine bp_ #[.bool false, .slice none 0 0, .int .i64 0] 2 ?_; refine bp_ #[.bool false, .slice none 0 0, .int .i64 0] 1 ?_; refine bp_ #[.bool false, .slice none 0 0, .int .i64 0] 0 ?_; exact BK480.out) Try.underlying50 rfl (by kernel_rfl)) rfl ?_
         exact ⟨_, rf_, by first | exact Kd.R_nil _ _ _ _ _ | exact Kd.N_nil _ _ _ _ _ | exact Kd.V_nil _ _ _ _ _ | exact Kd.Q_nil _ _ _ _ _ | exact Kd.S_nil _ _ _ _ _, bw_ HB.out⟩
        ·rw [if_neg c43] at H
         have c43b0 : decide (4194304 < x1_2) = false := decide_eq_false c43
         clear c43
         simp only [Option.some.injEq, Prod.mk.injEq] at H
         obtain ⟨rfl, rfl, rfl⟩ := H
         have hnb50 := NB485_479.out
         have hnc50 := NB479_485.out
         have hnb51 := NB485_480.out
         have hnc51 := NB480_485.out
         obtain ⟨hcz52_0, hcz52_1, hfz52_0, hfz52_1⟩ := c2_ BK485
         obtain ⟨Ao53, co53, eo53⟩ := Kd.R_slice HO_486001.out
         subst eo53
         go_wp2_with (first | ((with_reducible refine gate_callee (f := 68) rfl ?_); refine gl_ (some 32) Try.func68 #[.slice Ao53 x486001_2.length co53] ?_; (with_reducible refine (pelorusref03_even.calls _ _ x486001_2 false _ ?side1 ?side2 A31.out).mono ?_); (case side1 => repeat (first | exact (Kd.R_reads' HO_486001.out).2.2 | (with_reducible refine Kd.C_alloc ?_ _) | (with_reducible refine Kd.C_drewN ?_ _) | (with_reducible refine Kd.C_drew ?_))); (case side2 => exact (Kd.R_reads' HO_486001.out).2.1); rintro e w' ⟨rfl, ⟨nd, rfl⟩⟩; refine ⟨_, rfl, ?_⟩; (try (rw [drewN_self wr]; generalize hq_ : World.drewN wr _ = wr; have n0_ : Aside0 (Kd.R (Kd.int .u32) 68 wr w.heap.size (fun _ => True) (.slice Ao53 x486001_2.length co53) x486001_2) := ⟨by rw [← hq_]; exact (by (with_reducible repeat (first | apply Kd.R_alloc | apply Kd.R_drewN | apply Kd.R_drew)); exact HO_486001.out)⟩; have n1_ : Aside0 (wr.heap[gb479]? = some (.cells #[.bool a0_0, .slice A0_1 l0_1.length c0_1] 48 (0, 0))) := ⟨by rw [← hq_]; exact (kb_ BK479.out)⟩; have n2_ : Aside0 (wr.heap[gb480]? = some (.cells #[.bool false, .slice none 0 0, .int .i64 0] 50 (0, 0))) := ⟨by rw [← hq_]; exact (kb_ BK480.out)⟩; have n3_ : Aside0 (wr.heap[gb485]? = some (.cells #[.bool x486000_2, .slice Ao53 x486001_2.length co53] 48 (0, 0))) := ⟨by rw [← hq_]; exact (kb_ BK485.out)⟩; have n4_ : Aside0 (Below w.heap.size w wr) := ⟨by rw [← hq_]; exact (bw_ HB.out)⟩; clear HO_486001 BK479 BK480 BK485 HB hq_; have HO_486001 := n0_; have BK479 := n1_; have BK480 := n2_; have BK485 := n3_; have HB := n4_; clear n0_ n1_ n2_ n3_ n4_)); (try (obtain ⟨hcz52_0, hcz52_1, hfz52_0, hfz52_1⟩ := c2_ BK485)); have hnb54 := NB480_479.out; have hnc54 := NB479_480.out; obtain ⟨hcz55_0, hcz55_1, hcz55_2, hfz55_0, hfz55_1, hfz55_2⟩ := c3_ BK480))
         refine bodyPost_ret (results_cell_row rfl _ _ gb480 50 #[.bool x486000_2, .slice Ao53 x486001_2.length co53, .int .i64 x1_2] (0, 0) _ rfl (by refine kb_ ?_; refine bp_ #[.bool x486000_2, .slice Ao53 x486001_2.length co53, .int .i64 0] 2 ?_; refine bp_ #[.bool x486000_2, .slice none 0 0, .int .i64 0] 1 ?_; refine bp_ #[.bool false, .slice none 0 0, .int .i64 0] 0 ?_; exact BK480.out) Try.underlying50 rfl (by kernel_rfl)) rfl ?_
         exact ⟨_, rf_, by (with_reducible repeat (first | apply Kd.R_alloc | apply Kd.R_drewN | apply Kd.R_drew)); exact Kd.R_mono (Kd.R_far (p := ⟨gb480, 2, none⟩) (Kd.R_far (p := ⟨gb480, 1, none⟩) (Kd.R_far (p := ⟨gb480, 0, none⟩) (Kd.R_types HO_486001.out BK480.out (by decide)) (fun _ hk => hk.2) (.bool x486000_2)) (fun _ hk => hk.2) (.slice Ao53 x486001_2.length co53)) (fun _ hk => hk.2) (.int .i64 x1_2)) (fun _ hk => trivial), bw_ HB.out⟩
      ·rw [if_neg c30] at H
       have c30b0 : decide (x6_2 < 4000000) = false := decide_eq_false c30
       clear c30
       by_cases c56 : x1_2 > 4194304
       ·rw [if_pos c56] at H
        have c56b0 : decide (4194304 < x1_2) = true := decide_eq_true c56
        clear c56
        simp only [Option.some.injEq, Prod.mk.injEq] at H
        obtain ⟨rfl, rfl, rfl⟩ := H
        have hnb57 := NB480_479.out
        have hnc57 := NB479_480.out
        have hnb58 := NB480_485.out
        have hnc58 := NB485_480.out
        obtain ⟨hcz59_0, hcz59_1, hcz59_2, hfz59_0, hfz59_1, hfz59_2⟩ := c3_ BK480
        go_wp2
        refine bodyPost_ret (results_cell_row rfl _ _ gb480 50 #[.bool false, .slice none 0 0, .int .i64 0] (0, 0) _ rfl (by refine kb_ ?_; refine bp_ #[.bool false, .slice none 0 0, .int .i64 0] 2 ?_; refine bp_ #[.bool false, .slice none 0 0, .int .i64 0] 1 ?_; refine bp_ #[.bool false, .slice none 0 0, .int .i64 0] 0 ?_; exact BK480.out) Try.underlying50 rfl (by kernel_rfl)) rfl ?_
        exact ⟨_, rf_, by first | exact Kd.R_nil _ _ _ _ _ | exact Kd.N_nil _ _ _ _ _ | exact Kd.V_nil _ _ _ _ _ | exact Kd.Q_nil _ _ _ _ _ | exact Kd.S_nil _ _ _ _ _, bw_ HB.out⟩
       ·rw [if_neg c56] at H
        have c56b0 : decide (4194304 < x1_2) = false := decide_eq_false c56
        clear c56
        simp only [Option.some.injEq, Prod.mk.injEq] at H
        obtain ⟨rfl, rfl, rfl⟩ := H
        have hnb60 := NB485_479.out
        have hnc60 := NB479_485.out
        have hnb61 := NB485_480.out
        have hnc61 := NB480_485.out
        obtain ⟨hcz62_0, hcz62_1, hfz62_0, hfz62_1⟩ := c2_ BK485
        obtain ⟨Ao63, co63, eo63⟩ := Kd.R_slice HO_486001.out
        subst eo63
        have hnb64 := NB480_479.out
        have hnc64 := NB479_480.out
        obtain ⟨hcz65_0, hcz65_1, hcz65_2, hfz65_0, hfz65_1, hfz65_2⟩ := c3_ BK480
        go_wp2
        refine bodyPost_ret (results_cell_row rfl _ _ gb480 50 #[.bool x486000_2, .slice Ao63 x486001_2.length co63, .int .i64 x1_2] (0, 0) _ rfl (by refine kb_ ?_; refine bp_ #[.bool x486000_2, .slice Ao63 x486001_2.length co63, .int .i64 0] 2 ?_; refine bp_ #[.bool x486000_2, .slice none 0 0, .int .i64 0] 1 ?_; refine bp_ #[.bool false, .slice none 0 0, .int .i64 0] 0 ?_; exact BK480.out) Try.underlying50 rfl (by kernel_rfl)) rfl ?_
        exact ⟨_, rf_, by (with_reducible repeat (first | apply Kd.R_alloc | apply Kd.R_drewN | apply Kd.R_drew)); exact Kd.R_mono (Kd.R_far (p := ⟨gb480, 2, none⟩) (Kd.R_far (p := ⟨gb480, 1, none⟩) (Kd.R_far (p := ⟨gb480, 0, none⟩) (Kd.R_types HO_486001.out BK480.out (by decide)) (fun _ hk => hk.2) (.bool x486000_2)) (fun _ hk => hk.2) (.slice Ao63 x486001_2.length co63)) (fun _ hk => hk.2) (.int .i64 x1_2)) (fun _ hk => trivial), bw_ HB.out⟩

/-! ### pelorusref05_limbs: function 56 -/
set_option maxHeartbeats 8000000 in
set_option maxRecDepth 100000 in
theorem pelorusref05_limbs.calls (a0 : Int) (r : List Int) (w : World) (h : pelorusref05_limbs.f a0 = some r) :
  Calls Try.prog 56 #[.int .u64 a0] w fun e w' => ∃ v0_ : Value, e = .returned (v0_) ∧ Kd.R (Kd.int .u32) 68 w' w.heap.size (fun _ => True) v0_ r ∧ Below w.heap.size w w' := by
 have HB := Aside0.mk (Below.refl w.heap.size w)
 have H : (some (([(Int.tmod a0 4294967296) % 4294967296, (IntKind.u64.wrap (Int.tdiv a0 4294967296)) % 4294967296] : List Int))) = some r := h
 clear h
 obtain ⟨y490, hy490⟩ : ∃ y_ : List Int, y_ = (([(Int.tmod a0 4294967296) % 4294967296, (IntKind.u64.wrap (Int.tdiv a0 4294967296)) % 4294967296] : List Int)) := ⟨_, rfl⟩
 replace H : (some y490) = some r := by first | (rw [hy490]; with_reducible exact H) | (have H2_ := (Option.bind_some _ _).symm.trans H; rw [hy490]; with_reducible exact H2_) | (have H2_ := (Option.bind_some _ _).symm.trans H; with_reducible exact H2_) | with_reducible exact H | (rw [hy490]; exact H) | exact H
 have Ny490 := Aside0.mk hy490
 clear hy490
 obtain rfl := Option.some.inj H
 go_enter Try.func56, Try.ntmps56
 go_wp2_with (first | ((with_reducible refine gate_dst (N := 9) rfl ?_); refine Kd.R_lit (Kd.int .u32) _ 68 ?hg (N := 9) ?hd (xs := ([(Int.tmod a0 4294967296) % 4294967296, (IntKind.u64.wrap (Int.tdiv a0 4294967296)) % 4294967296] : List Int)) (inner := [.int .u32 ((Int.tmod a0 4294967296) % 4294967296), .int .u32 ((IntKind.u64.wrap (Int.tdiv a0 4294967296)) % 4294967296)]) (ok := fun _ => True) (okp := fun _ => True) ?hr ?hp (fun _ hk => hk) trivial (Below.refl _ _) (Nat.le_refl _) (by simp) ?_; (case hd => rfl); (case hg => rfl); (case hr => first | (go_simp; done) | (go_simp; rfl)); (case hp => exact (Reps.one (show Kd.M (Kd.int .u32) _ _ _ ((Int.tmod a0 4294967296) % 4294967296) [.int .u32 ((Int.tmod a0 4294967296) % 4294967296)] from rfl) (Reps.one (show Kd.M (Kd.int .u32) _ _ _ ((IntKind.u64.wrap (Int.tdiv a0 4294967296)) % 4294967296) [.int .u32 ((IntKind.u64.wrap (Int.tdiv a0 4294967296)) % 4294967296)] from rfl) (Reps.none _ _)))); intro v491 w2 ho3 hb hg_ hnew_; clear hg_ hnew_; (first | rw [← Ny490.out] at ho3 | (simp only [Int.reduceToNat] at ho3; rw [← Ny490.out] at ho3)); have n0_ := Aside0.mk (Kd.R_lower ho3 (below_size (bw_ HB.out))); have n1_ := bq_ HB hb; clear HB; have HO492 := n0_; have HB := n1_; clear n0_ n1_; clear hb ho3))
 go_ret
 exact ⟨_, rf_, by (with_reducible repeat (first | apply Kd.R_alloc | apply Kd.R_drewN | apply Kd.R_drew)); exact HO492.out, bw_ HB.out⟩

/-! ### pelorusref05_Exact: function 39 -/
theorem pelorusref05_Exact.tab6 : rtab .any (opsOf Try.f39 6) = pelorusref05_Exact.T6 := by kernel_rfl
theorem pelorusref05_Exact.bits6 : waitsOk pelorusref05_Exact.T6.2 pelorusref05_Exact.B6 = true := by kernel_rfl
set_option maxHeartbeats 8000000 in
set_option maxRecDepth 100000 in
theorem pelorusref05_Exact.calls (k : Nat) (a0_0 : Int) (a0_1 : Bool) (a0_2 : Int) (a0_3 : Int) (r1 : Bool) (r2 : List Int) (r3 : Int) (r4 : Bool) (w : World) (h : pelorusref05_Exact.f k a0_0 a0_1 a0_2 a0_3 = some (r1, r2, r3, r4)) :
  Calls Try.prog 39 #[.agg #[.int .i64 a0_0, .bool a0_1, .int .u64 a0_2, .int .i64 a0_3]] w fun e w' => ∃ v1_ : Value, e = .returned (.tuple #[.agg #[.bool r1, v1_, .int .i64 r3], .bool r4]) ∧ Kd.R (Kd.int .u32) 68 w' w.heap.size (fun _ => True) v1_ r2 ∧ Below w.heap.size w w' := by
 have hu24 := Try.underlying24
 have hu50 := Try.underlying50
 have HB := Aside0.mk (Below.refl w.heap.size w)
 have H : ((pelorusref05_May.f a0_0 a0_1 a0_2 a0_3).bind fun t495 => (if t495 = true then (pelorusref05_Exact.j0 k (a0_0 == 2) a0_0 a0_1 a0_2 a0_3) else (pelorusref05_Exact.j0 k true a0_0 a0_1 a0_2 a0_3))) = some (r1, r2, r3, r4) := h
 clear h
 replace H := Option.bind_eq_some_iff.mp H
 obtain ⟨t495, A20, H⟩ := H
 (try dsimp only at H)
 have A2 := Aside0.mk A20
 clear A20
 have HC3 := Aside0.mk H
 clear H
 go_enter Try.func39, Try.ntmps39
 go_upto_region 2 with (first | ((with_reducible refine gate_dst (N := 1) rfl ?_); refine bx_ 1 #[.int .i64 a0_0, .bool a0_1, .int .u64 a0_2, .int .i64 a0_3] 24 ?_; intro gb493 hg w4 hbox hb; have n0_ := bq_ HB hb; have n1_ := Aside0.mk (hbox); have n2_ := ge_ hg HB; have n3_ := ge_ hg HB; clear HB; have HB := n0_; have BK493 := n1_; have GW493 := n2_; have GE493 := n3_; clear n0_ n1_ n2_ n3_; clear hb hbox hg) | ((with_reducible refine gate_dst (N := 2) rfl ?_); refine bx_ 2 #[.bool false, .slice none 0 0, .int .i64 0] 50 ?_; intro gb494 hg w5 hbox hb; have n0_ := kq_ BK493 hb; have n1_ := bq_ HB hb; have n2_ := Aside0.mk (hbox); have n3_ := ge_ hg HB; have n4_ := ge_ hg HB; have n5_ := nb_ hg BK493; have n6_ := nc_ hg BK493; clear BK493; clear HB; have BK493 := n0_; have HB := n1_; have BK494 := n2_; have GW494 := n3_; have GE494 := n4_; have NB493_494 := n5_; have NB494_493 := n6_; clear n0_ n1_ n2_ n3_ n4_ n5_ n6_; clear hb hbox hg; have hnb6 := NB493_494.out; have hnc6 := NB494_493.out; obtain ⟨hcz7_0, hcz7_1, hcz7_2, hcz7_3, hfz7_0, hfz7_1, hfz7_2, hfz7_3⟩ := c4_ BK493) | ((with_reducible refine gate_callee (f := 53) rfl ?_); refine gl_ (some 6) Try.func53 #[.agg #[.int .i64 a0_0, .bool a0_1, .int .u64 a0_2, .int .i64 a0_3]] ?_; (with_reducible refine (pelorusref05_May.calls a0_0 a0_1 a0_2 a0_3 t495 _ A2.out).mono ?_); rintro e w8 ⟨rfl, hb⟩; refine ⟨_, rfl, ?_⟩; have n0_ := kq_ BK493 hb; have n1_ := kq_ BK494 hb; have n2_ := bq_ HB hb; clear BK493; clear BK494; clear HB; have BK493 := n0_; have BK494 := n1_; have HB := n2_; clear n0_ n1_ n2_; (try clear hb); (try clear hb2); (try clear hk); (try clear hi)))
 (try simp only [Act.put, List.setIfInBounds_toArray, List.set_cons_zero, List.set_cons_succ])
 go_cut [13] (fun v13 wc => ∃ (kq : Nat) (x13_2 : Bool), v13 = .bool x13_2 ∧ Aside0 (pelorusref05_Exact.j0 kq x13_2 a0_0 a0_1 a0_2 a0_3 = some (r1, r2, r3, r4)) ∧ Aside0 (kq ≤ k) ∧ Aside0 (wc.heap[gb493]? = some (.cells #[.int .i64 a0_0, .bool a0_1, .int .u64 a0_2, .int .i64 a0_3] 24 (0, 0))) ∧ Aside0 (wc.heap[gb494]? = some (.cells #[.bool false, (.slice none 0 0), .int .i64 0] 50 (0, 0))) ∧ Aside0 (Below w.heap.size w wc))
 case first =>
  have H := HC3.out
  clear HC3
  by_cases c9 : t495 = true
  ·subst c9
   have H1 : (pelorusref05_Exact.j0 k (a0_0 == 2) a0_0 a0_1 a0_2 a0_3) = some (r1, r2, r3, r4) := by rw [if_pos rfl] at H; exact H
   clear H
   have H := H1
   clear H1
   have H' := Aside0.mk H
   clear H
   have hnb10 := NB493_494.out
   have hnc10 := NB494_493.out
   obtain ⟨hcz11_0, hcz11_1, hcz11_2, hcz11_3, hfz11_0, hfz11_1, hfz11_2, hfz11_3⟩ := c4_ BK493
   go_wp2
   go_meet
   case rel => exact ⟨_, ((a0_0 == 2)), (by first | rfl | (simp; done) | (simp [*]; done)), H', ⟨by first | omega | exact Nat.le_refl _⟩, ⟨kb_ BK493.out⟩, ⟨kb_ BK494.out⟩, ⟨bw_ HB.out⟩⟩
  ·replace c9 := Bool.eq_false_iff.mpr c9
   subst c9
   have H1 : (pelorusref05_Exact.j0 k true a0_0 a0_1 a0_2 a0_3) = some (r1, r2, r3, r4) := by rw [if_neg (show ¬ (false = true) by decide)] at H; exact H
   clear H
   have H := H1
   clear H1
   have H' := Aside0.mk H
   clear H
   go_wp2
   go_meet
   case rel => exact ⟨_, (true), (by first | rfl | (simp; done) | (simp [*]; done)), H', ⟨by first | omega | exact Nat.le_refl _⟩, ⟨kb_ BK493.out⟩, ⟨kb_ BK494.out⟩, ⟨bw_ HB.out⟩⟩
 case rest =>
  clear HC3
  try clear c1
  try clear p2
  try clear c3
  try clear c5
  try clear c6
  try clear c9
  try clear c10
  try clear hcz11_0 hcz11_1 hcz11_2 hcz11_3
  try clear hcz7_0 hcz7_1 hcz7_2 hcz7_3
  try clear hfz11_0 hfz11_1 hfz11_2 hfz11_3
  try clear hfz7_0 hfz7_1 hfz7_2 hfz7_3
  obtain ⟨kq, x13_2, rfl, HA, HJ2, BK493, BK494, HB⟩ := hcut
  cases kq with
  | zero => exact absurd HA.out (by simp [pelorusref05_Exact.j0])
  | succ kj2 =>
   have H := HA.out
   clear HA
   simp only [pelorusref05_Exact.j0] at H
   by_cases c12 : x13_2 = true
   ·subst c12
    have H1 : (some (false, ([] : List Int), 0, false)) = some (r1, r2, r3, r4) := by rw [if_pos rfl] at H; exact H
    clear H
    have H := H1
    clear H1
    simp only [Option.some.injEq, Prod.mk.injEq] at H
    obtain ⟨rfl, rfl, rfl, rfl⟩ := H
    have hnb13 := NB494_493.out
    have hnc13 := NB493_494.out
    obtain ⟨hcz14_0, hcz14_1, hcz14_2, hfz14_0, hfz14_1, hfz14_2⟩ := c3_ BK494
    go_wp2
    refine bodyPost_ret (results_ct rfl _ _ gb494 50 #[.bool false, .slice none 0 0, .int .i64 0] (0, 0) _ rfl (by refine kb_ ?_; refine bp_ #[.bool false, .slice none 0 0, .int .i64 0] 2 ?_; refine bp_ #[.bool false, .slice none 0 0, .int .i64 0] 1 ?_; refine bp_ #[.bool false, .slice none 0 0, .int .i64 0] 0 ?_; exact BK494.out) Try.underlying50 rfl (by kernel_rfl)) rfl ?_
    exact ⟨_, rf_, by first | exact Kd.R_nil _ _ _ _ _ | exact Kd.N_nil _ _ _ _ _ | exact Kd.V_nil _ _ _ _ _ | exact Kd.Q_nil _ _ _ _ _ | exact Kd.S_nil _ _ _ _ _, bw_ HB.out⟩
   ·replace c12 := Bool.eq_false_iff.mpr c12
    subst c12
    have H1 : (if a0_0 = 0 then (some (false, ([] : List Int), 0, true)) else ((pelorusref05_limbs.f a0_2).bind fun t496 => ((pelorusref02_Make.f kj2 a0_1 t496).bind fun bt499 => ((pelorusref03_Make.f kj2 bt499.1 bt499.2 a0_3).bind fun bt503 => (some (bt503.1, bt503.2.1, bt503.2.2, true)))))) = some (r1, r2, r3, r4) := by rw [if_neg (show ¬ (false = true) by decide)] at H; exact H
    clear H
    have H := H1
    clear H1
    by_cases c15 : a0_0 = 0
    ·rw [if_pos c15] at H
     have c15b0 : (a0_0 == 0) = true := beq_iff_eq.mpr c15
     have c15b1 : (a0_0 != 0) = false := bne_eq_false_iff_eq.mpr c15
     clear c15
     simp only [Option.some.injEq, Prod.mk.injEq] at H
     obtain ⟨rfl, rfl, rfl, rfl⟩ := H
     have hnb16 := NB493_494.out
     have hnc16 := NB494_493.out
     obtain ⟨hcz17_0, hcz17_1, hcz17_2, hcz17_3, hfz17_0, hfz17_1, hfz17_2, hfz17_3⟩ := c4_ BK493
     obtain ⟨hcz18_0, hcz18_1, hcz18_2, hfz18_0, hfz18_1, hfz18_2⟩ := c3_ BK494
     go_wp2
     refine bodyPost_ret (results_ct rfl _ _ gb494 50 #[.bool false, .slice none 0 0, .int .i64 0] (0, 0) _ rfl (by refine kb_ ?_; refine bp_ #[.bool false, .slice none 0 0, .int .i64 0] 2 ?_; refine bp_ #[.bool false, .slice none 0 0, .int .i64 0] 1 ?_; refine bp_ #[.bool false, .slice none 0 0, .int .i64 0] 0 ?_; exact BK494.out) Try.underlying50 rfl (by kernel_rfl)) rfl ?_
     exact ⟨_, rf_, by first | exact Kd.R_nil _ _ _ _ _ | exact Kd.N_nil _ _ _ _ _ | exact Kd.V_nil _ _ _ _ _ | exact Kd.Q_nil _ _ _ _ _ | exact Kd.S_nil _ _ _ _ _, bw_ HB.out⟩
    ·rw [if_neg c15] at H
     have c15b0 : (a0_0 == 0) = false := beq_eq_false_iff_ne.mpr c15
     have c15b1 : (a0_0 != 0) = true := bne_iff_ne.mpr c15
     replace H := Option.bind_eq_some_iff.mp H
     obtain ⟨t496, A190, H⟩ := H
     (try dsimp only at H)
     have A19 := Aside0.mk A190
     clear A190
     replace H := Option.bind_eq_some_iff.mp H
     obtain ⟨⟨t499, t500⟩, A200, H⟩ := H
     (try dsimp only at H)
     have A20 := Aside0.mk A200
     clear A200
     replace H := Option.bind_eq_some_iff.mp H
     obtain ⟨⟨t503, t504, t507⟩, A210, H⟩ := H
     (try dsimp only at H)
     have A21 := Aside0.mk A210
     clear A210
     simp only [Option.some.injEq, Prod.mk.injEq] at H
     obtain ⟨rfl, rfl, rfl, rfl⟩ := H
     have hnb22 := NB493_494.out
     have hnc22 := NB494_493.out
     obtain ⟨hcz23_0, hcz23_1, hcz23_2, hcz23_3, hfz23_0, hfz23_1, hfz23_2, hfz23_3⟩ := c4_ BK493
     try go_wp2
     have n0_ := Aside0.mk (blk_drew BK493.out)
     have n1_ := Aside0.mk (blk_drew BK494.out)
     have n2_ := Aside0.mk (below_drew1 HB.out)
     clear BK493
     clear BK494
     clear HB
     have BK493 := n0_
     have BK494 := n1_
     have HB := n2_
     clear n0_ n1_ n2_
     refine start_ (n := 11) (S := fun w' => w'.cell? ⟨gb493, 0, none⟩ = some (.int .i64 a0_0) ∧ w'.cell? ⟨gb493, 1, none⟩ = some (.bool a0_1) ∧ w'.cell? ⟨gb493, 2, none⟩ = some (.int .u64 a0_2) ∧ w'.cell? ⟨gb493, 3, none⟩ = some (.int .i64 a0_3)) (ds := []) #[false, false, false, false, false, false, false, false, false, false, false] (by kernel_rfl) rfl rfl ⟨(blk_cell BK493.out 0).trans rfl, (blk_cell BK493.out 1).trans rfl, (blk_cell BK493.out 2).trans rfl, (blk_cell BK493.out 3).trans rfl⟩ (fun hHeld => ?_); refine with_tabW pelorusref05_Exact.tab6 pelorusref05_Exact.bits6 (fun HT_ HW_ => ?_)
     generalize wc.drew = w24 at BK493 BK494 HB hHeld ⊢
     refine pure_ (i := 0) (N := some 19) (v := ?_) (a' := ?_) #[true, false, false, false, false, false, false, false, false, false, false] rfl rfl (any_of HT_.out (by kernel_rfl)) (fun _ _ _ h => h) (Or.inl ⟨by rfl, ?_⟩) ?_ ?_
     rotate_left
     ·intro w'
      go_simp
      with_reducible rfl
     rotate_left
     ·exact pt_
     refine pure_ (i := 2) (N := some 21) (v := ?_) (a' := ?_) #[true, false, true, false, false, false, false, false, false, false, false] rfl rfl (any_of HT_.out (by kernel_rfl)) (fun _ _ _ h => h) (Or.inl ⟨by rfl, ?_⟩) ?_ ?_
     rotate_left
     ·intro w'
      go_simp
      with_reducible rfl
     rotate_left
     ·exact pt_
     refine pure_ (i := 6) (N := some 25) (v := ?_) (a' := ?_) #[true, false, true, false, false, false, true, false, false, false, false] rfl rfl (any_of HT_.out (by kernel_rfl)) (fun _ _ _ h => h) (Or.inl ⟨by rfl, ?_⟩) ?_ ?_
     rotate_left
     ·intro w'
      go_simp
      with_reducible rfl
     rotate_left
     ·exact pt_
     refine take_ (i := 1) (N := some 20) (v := ?_) (a' := ?_) #[true, true, true, false, false, false, true, false, false, false, false] rfl rfl (take_ofW HT_.out HW_.out (by kernel_rfl)) (fun _ _ _ h => h) (Or.inl ⟨by rfl, ?_⟩) hHeld ?_ ?_
     rotate_left
     ·rintro w' ⟨s0, s1, s2, s3⟩
      go_simp
      with_reducible rfl
     rotate_left
     ·exact pt_
     refine take_ (i := 3) (N := some 22) (v := ?_) (a' := ?_) #[true, true, true, true, false, false, true, false, false, false, false] rfl rfl (take_ofW HT_.out HW_.out (by kernel_rfl)) (fun _ _ _ h => h) (Or.inl ⟨by rfl, ?_⟩) hHeld ?_ ?_
     rotate_left
     ·rintro w' ⟨s0, s1, s2, s3⟩
      go_simp
      with_reducible rfl
     rotate_left
     ·exact pt_
     refine take_ (i := 7) (N := some 26) (v := ?_) (a' := ?_) #[true, true, true, true, false, false, true, true, false, false, false] rfl rfl (take_ofW HT_.out HW_.out (by kernel_rfl)) (fun _ _ _ h => h) (Or.inl ⟨by rfl, ?_⟩) hHeld ?_ ?_
     rotate_left
     ·rintro w' ⟨s0, s1, s2, s3⟩
      go_simp
      with_reducible rfl
     rotate_left
     ·exact pt_
     refine one_ (i := 4) (N := some 23) #[true, true, true, true, true, false, true, true, false, false, false] rfl rfl (one_of HT_.out (by kernel_rfl)) (by decide) (fun K hK => ?_)
     refine gs_ Try.func56 #[.int .u64 a0_2] ?_
     with_reducible refine (pelorusref05_limbs.calls a0_2 t496 _ A19.out).mono ?_
     rintro e w25 ⟨v497, rfl, ho0, hb⟩
     refine ⟨_, rfl, ?_⟩
     have n0_ := Aside0.mk (Kd.R_lower ho0 (below_size (bw_ HB.out)))
     have n1_ := kq_ BK493 hb
     have n2_ := kq_ BK494 hb
     have n3_ := bq_ HB hb
     clear BK493
     clear BK494
     clear HB
     have HO498 := n0_
     have BK493 := n1_
     have BK494 := n2_
     have HB := n3_
     clear n0_ n1_ n2_ n3_
     (try clear hb)
     (try clear hb2)
     (try clear hk)
     (try clear hi)
     (try clear ho0)
     obtain ⟨Ao26, co26, eo26⟩ := Kd.R_slice HO498.out
     (first | subst eo26 | (injection eo26 with f1_ f2_ f3_; have f4_ := f1_.symm; have f5_ := f3_.symm; clear f1_ f2_ f3_; subst f4_; subst f5_))
     refine hK.out _ _ ⟨(blk_cell BK493.out 0).trans rfl, (blk_cell BK493.out 1).trans rfl, (blk_cell BK493.out 2).trans rfl, (blk_cell BK493.out 3).trans rfl⟩ (fun hHeld => ?_)
     clear hK K
     refine norm_ (a' := ?_) ?_ ?_
     rotate_left
     ·show Act.put _ (some 23) _ = _
      exact pt_
     refine one_ (i := 5) (N := some 24) #[true, true, true, true, true, true, true, true, false, false, false] rfl rfl (one_of HT_.out (by kernel_rfl)) (by decide) (fun K hK => ?_)
     refine gs_ Try.func55 #[.bool a0_1, .slice Ao26 t496.length co26] ?_
     with_reducible refine (pelorusref02_Make.calls kj2 a0_1 _ _ t496 t499 t500 _ ?side1 ?side2 A20.out).mono ?_
     (case side1 => repeat (first | exact (Kd.R_reads' HO498.out).2.2 | (with_reducible refine Kd.C_alloc ?_ _) | (with_reducible refine Kd.C_drewN ?_ _) | (with_reducible refine Kd.C_drew ?_)))
     (case side2 => exact (Kd.R_reads' HO498.out).2.1)
     rintro e w27 ⟨v501, rfl, ho0, hb⟩
     refine ⟨_, rfl, ?_⟩
     have n0_ := Aside0.mk (Kd.R_elder' (by (with_reducible repeat (first | apply Kd.R_alloc | apply Kd.R_drewN | apply Kd.R_drew)); exact HO498.out) (Kd.R_base ho0) hb)
     have n1_ := Aside0.mk (Kd.R_lower (Kd.R_new' ho0 (Kd.R_lt (by (with_reducible repeat (first | apply Kd.R_alloc | apply Kd.R_drewN | apply Kd.R_drew)); exact HO498.out))) (below_size (bw_ HB.out)))
     have n2_ := kq_ BK493 hb
     have n3_ := kq_ BK494 hb
     have n4_ := bq_ HB hb
     clear HO498
     clear BK493
     clear BK494
     clear HB
     have HO498 := n0_
     have HO502 := n1_
     have BK493 := n2_
     have BK494 := n3_
     have HB := n4_
     clear n0_ n1_ n2_ n3_ n4_
     (try clear hb)
     (try clear hb2)
     (try clear hk)
     (try clear hi)
     (try clear ho0)
     obtain ⟨Ao28, co28, eo28⟩ := Kd.R_slice HO502.out
     (first | subst eo28 | (injection eo28 with f1_ f2_ f3_; have f4_ := f1_.symm; have f5_ := f3_.symm; clear f1_ f2_ f3_; subst f4_; subst f5_))
     refine hK.out _ _ ⟨(blk_cell BK493.out 0).trans rfl, (blk_cell BK493.out 1).trans rfl, (blk_cell BK493.out 2).trans rfl, (blk_cell BK493.out 3).trans rfl⟩ (fun hHeld => ?_)
     clear hK K
     refine norm_ (a' := ?_) ?_ ?_
     rotate_left
     ·show Act.put _ (some 24) _ = _
      exact pt_
     refine one_ (i := 8) (N := some 27) #[true, true, true, true, true, true, true, true, true, false, false] rfl rfl (one_of HT_.out (by kernel_rfl)) (by decide) (fun K hK => ?_)
     refine gs_ Try.func54 #[.agg #[.bool t499, .slice Ao28 t500.length co28], .int .i64 a0_3] ?_
     with_reducible refine (pelorusref03_Make.calls kj2 t499 _ _ t500 a0_3 t503 t504 t507 _ ?side1 ?side2 A21.out).mono ?_
     (case side1 => repeat (first | exact (Kd.R_reads' HO502.out).2.2 | (with_reducible refine Kd.C_alloc ?_ _) | (with_reducible refine Kd.C_drewN ?_ _) | (with_reducible refine Kd.C_drew ?_)))
     (case side2 => exact (Kd.R_reads' HO502.out).2.1)
     rintro e w29 ⟨v505, rfl, ho0, hb⟩
     refine ⟨_, rfl, ?_⟩
     have n0_ := Aside0.mk (Kd.R_elder' (by (with_reducible repeat (first | apply Kd.R_alloc | apply Kd.R_drewN | apply Kd.R_drew)); exact HO498.out) (Kd.R_base ho0) hb)
     have n1_ := Aside0.mk (Kd.R_elder' (by (with_reducible repeat (first | apply Kd.R_alloc | apply Kd.R_drewN | apply Kd.R_drew)); exact HO502.out) (Kd.R_base ho0) hb)
     have n2_ := Aside0.mk (Kd.R_lower (Kd.R_new' (Kd.R_new' ho0 (Kd.R_lt (by (with_reducible repeat (first | apply Kd.R_alloc | apply Kd.R_drewN | apply Kd.R_drew)); exact HO498.out))) (Kd.R_lt (by (with_reducible repeat (first | apply Kd.R_alloc | apply Kd.R_drewN | apply Kd.R_drew)); exact HO502.out))) (below_size (bw_ HB.out)))
     have n3_ := kq_ BK493 hb
     have n4_ := kq_ BK494 hb
     have n5_ := bq_ HB hb
     clear HO498
     clear HO502
     clear BK493
     clear BK494
     clear HB
     have HO498 := n0_
     have HO502 := n1_
     have HO506 := n2_
     have BK493 := n3_
     have BK494 := n4_
     have HB := n5_
     clear n0_ n1_ n2_ n3_ n4_ n5_
     (try clear hb)
     (try clear hb2)
     (try clear hk)
     (try clear hi)
     (try clear ho0)
     obtain ⟨Ao31, co31, eo31⟩ := Kd.R_slice HO506.out
     (first | subst eo31 | (injection eo31 with f1_ f2_ f3_; have f4_ := f1_.symm; have f5_ := f3_.symm; clear f1_ f2_ f3_; subst f4_; subst f5_))
     refine hK.out _ _ ⟨(blk_cell BK493.out 0).trans rfl, (blk_cell BK493.out 1).trans rfl, (blk_cell BK493.out 2).trans rfl, (blk_cell BK493.out 3).trans rfl⟩ (fun hHeld => ?_)
     clear hK K
     refine norm_ (a' := ?_) ?_ ?_
     rotate_left
     ·show Act.put _ (some 27) _ = _
      exact pt_
     refine one_ (i := 9) (N := none) #[true, true, true, true, true, true, true, true, true, true, false] rfl rfl (one_of HT_.out (by kernel_rfl)) (by decide) (fun K hK => ?_)
     have hs30 : w29.cell? ⟨gb494, 0, none⟩ = some (.bool false) := (blk_cell BK494.out 0).trans rfl
     have hfs30 := fz_ BK494 0
     have hns30_0 := NB493_494.out
     have hms30_0 := NB494_493.out
     have hs32 : w29.cell? ⟨gb494, 1, none⟩ = some (.slice none 0 0) := (blk_cell BK494.out 1).trans rfl
     have hfs32 := fz_ BK494 1
     have hns32_0 := NB493_494.out
     have hms32_0 := NB494_493.out
     have hs33 : w29.cell? ⟨gb494, 2, none⟩ = some (.int .i64 0) := (blk_cell BK494.out 2).trans rfl
     have hfs33 := fz_ BK494 2
     have hns33_0 := NB493_494.out
     have hms33_0 := NB494_493.out
     refine skip_ (w1 := ?_) (by rfl) rfl ?_ ?_
     rotate_left
     ·go_simp
      rfl
     refine hK.out _ _ ⟨((cell_far (p := ⟨gb494, _, none⟩) NB493_494.out _).trans (((cell_far (p := ⟨gb494, _, none⟩) NB493_494.out _).trans (((cell_far (p := ⟨gb494, _, none⟩) NB493_494.out _).trans (hHeld.1)))))), ((cell_far (p := ⟨gb494, _, none⟩) NB493_494.out _).trans (((cell_far (p := ⟨gb494, _, none⟩) NB493_494.out _).trans (((cell_far (p := ⟨gb494, _, none⟩) NB493_494.out _).trans (hHeld.2.1)))))), ((cell_far (p := ⟨gb494, _, none⟩) NB493_494.out _).trans (((cell_far (p := ⟨gb494, _, none⟩) NB493_494.out _).trans (((cell_far (p := ⟨gb494, _, none⟩) NB493_494.out _).trans (hHeld.2.2.1)))))), ((cell_far (p := ⟨gb494, _, none⟩) NB493_494.out _).trans (((cell_far (p := ⟨gb494, _, none⟩) NB493_494.out _).trans (((cell_far (p := ⟨gb494, _, none⟩) NB493_494.out _).trans (hHeld.2.2.2))))))⟩ (fun hHeld => ?_)
     clear hK K
     refine pure_ (i := 10) (N := some 3) (v := ?_) (a' := ?_) #[true, true, true, true, true, true, true, true, true, true, true] rfl rfl (any_of HT_.out (by kernel_rfl)) (fun _ _ _ h => h) (Or.inl ⟨by rfl, ?_⟩) ?_ ?_
     rotate_left
     ·intro w'
      go_simp
      with_reducible rfl
     rotate_left
     ·exact pt_
     refine done_ (done_of HT_.out (by kernel_rfl)) ?_
     try go_wp2
     refine bodyPost_ret (results_ct rfl _ _ gb494 50 #[.bool t503, .slice Ao31 t504.length co31, .int .i64 t507] (0, 0) _ rfl (by refine kb_ ?_; refine bp_ #[.bool t503, .slice Ao31 t504.length co31, .int .i64 0] 2 ?_; refine bp_ #[.bool t503, .slice none 0 0, .int .i64 0] 1 ?_; refine bp_ #[.bool false, .slice none 0 0, .int .i64 0] 0 ?_; exact BK494.out) Try.underlying50 rfl (by kernel_rfl)) rfl ?_
     exact ⟨_, rf_, by (with_reducible repeat (first | apply Kd.R_alloc | apply Kd.R_drewN | apply Kd.R_drew)); exact Kd.R_mono (Kd.R_far (p := ⟨gb494, 2, none⟩) (Kd.R_far (p := ⟨gb494, 1, none⟩) (Kd.R_far (p := ⟨gb494, 0, none⟩) (Kd.R_types HO506.out BK494.out (by decide)) (fun _ hk => hk.2) (.bool t503)) (fun _ hk => hk.2) (.slice Ao31 t504.length co31)) (fun _ hk => hk.2) (.int .i64 t507)) (fun _ hk => trivial), bw_ HB.out⟩

/-! ### pelorusref05_finite: function 58 -/
set_option maxHeartbeats 8000000 in
set_option maxRecDepth 100000 in
theorem pelorusref05_finite.calls (a0 : Bool) (a1 : Int) (a2 : Int) (a3 : Bool) (r1 : Int) (r2 : Bool) (r3 : Int) (r4 : Int) (w : World) (h : pelorusref05_finite.f a0 a1 a2 a3 = some (r1, r2, r3, r4)) :
  Calls Try.prog 58 #[.bool a0, .int .u64 a1, .int .i64 a2, .bool a3] w fun e w' => e = .returned (.agg #[.int .i64 r1, .bool r2, .int .u64 r3, .int .i64 r4]) ∧ Below w.heap.size w w' := by
 have hu24 := Try.underlying24
 have HB := Aside0.mk (Below.refl w.heap.size w)
 have H : (if a2 > 1048576 then (if a3 = true then ((pelorusref05_Infinite.f a0).bind fun bt509 => (some (bt509.1, bt509.2.1, bt509.2.2.1, bt509.2.2.2))) else (some (1, a0, 18446744073709551615, 1048576))) else (if a2 < (-1048576) then (if a3 = true then (some (1, a0, 9223372036854775808, (-1048576))) else (some (0, false, 0, 0))) else (some (1, a0, a1, a2)))) = some (r1, r2, r3, r4) := h
 clear h
 by_cases c5 : a2 > 1048576
 ·rw [if_pos c5] at H
  have c5b0 : decide (1048576 < a2) = true := decide_eq_true c5
  clear c5
  by_cases c6 : a3 = true
  ·subst c6
   have H1 : ((pelorusref05_Infinite.f a0).bind fun bt509 => (some (bt509.1, bt509.2.1, bt509.2.2.1, bt509.2.2.2))) = some (r1, r2, r3, r4) := by rw [if_pos rfl] at H; exact H
   clear H
   have H := H1
   clear H1
   replace H := Option.bind_eq_some_iff.mp H
   obtain ⟨⟨t509, t510, t511, t512⟩, A70, H⟩ := H
   (try dsimp only at H)
   have A7 := Aside0.mk A70
   clear A70
   simp only [Option.some.injEq, Prod.mk.injEq] at H
   obtain ⟨rfl, rfl, rfl, rfl⟩ := H
   go_enter Try.func58, Try.ntmps58
   go_wp2_with (first | ((with_reducible refine gate_dst (N := 8) rfl ?_); refine bx_ 8 #[.int .i64 0, .bool false, .int .u64 0, .int .i64 0] 24 ?_; intro gb508 hg w8 hbox hb; have n0_ := bq_ HB hb; have n1_ := Aside0.mk (hbox); have n2_ := ge_ hg HB; have n3_ := ge_ hg HB; clear HB; have HB := n0_; have BK508 := n1_; have GW508 := n2_; have GE508 := n3_; clear n0_ n1_ n2_ n3_; clear hb hbox hg) | ((with_reducible refine gate_callee (f := 38) rfl ?_); refine gl_ (some 13) Try.func38 #[.bool a0] ?_; (with_reducible refine (pelorusref05_Infinite.calls a0 t509 t510 t511 t512 _ A7.out).mono ?_); rintro e w9 ⟨rfl, hb⟩; refine ⟨_, rfl, ?_⟩; have n0_ := kq_ BK508 hb; have n1_ := bq_ HB hb; clear BK508; clear HB; have BK508 := n0_; have HB := n1_; clear n0_ n1_; (try clear hb); (try clear hb2); (try clear hk); (try clear hi); obtain ⟨hcz10_0, hcz10_1, hcz10_2, hcz10_3, hfz10_0, hfz10_1, hfz10_2, hfz10_3⟩ := c4_ BK508))
   refine bodyPost_ret (results_cell_row rfl _ _ gb508 24 #[.int .i64 t509, .bool t510, .int .u64 t511, .int .i64 t512] (0, 0) _ rfl (by refine kb_ ?_; refine bp_ #[.int .i64 t509, .bool t510, .int .u64 t511, .int .i64 0] 3 ?_; refine bp_ #[.int .i64 t509, .bool t510, .int .u64 0, .int .i64 0] 2 ?_; refine bp_ #[.int .i64 t509, .bool false, .int .u64 0, .int .i64 0] 1 ?_; refine bp_ #[.int .i64 0, .bool false, .int .u64 0, .int .i64 0] 0 ?_; exact BK508.out) Try.underlying24 rfl (by kernel_rfl)) rfl ?_
   exact ⟨rf_, bw_ HB.out⟩
  ·replace c6 := Bool.eq_false_iff.mpr c6
   subst c6
   have H1 : (some (1, a0, 18446744073709551615, 1048576)) = some (r1, r2, r3, r4) := by rw [if_neg (show ¬ (false = true) by decide)] at H; exact H
   clear H
   have H := H1
   clear H1
   simp only [Option.some.injEq, Prod.mk.injEq] at H
   obtain ⟨rfl, rfl, rfl, rfl⟩ := H
   go_enter Try.func58, Try.ntmps58
   go_wp2_with (first | ((with_reducible refine gate_dst (N := 8) rfl ?_); refine bx_ 8 #[.int .i64 0, .bool false, .int .u64 0, .int .i64 0] 24 ?_; intro gb508 hg w11 hbox hb; have n0_ := bq_ HB hb; have n1_ := Aside0.mk (hbox); have n2_ := ge_ hg HB; have n3_ := ge_ hg HB; clear HB; have HB := n0_; have BK508 := n1_; have GW508 := n2_; have GE508 := n3_; clear n0_ n1_ n2_ n3_; clear hb hbox hg; obtain ⟨hcz12_0, hcz12_1, hcz12_2, hcz12_3, hfz12_0, hfz12_1, hfz12_2, hfz12_3⟩ := c4_ BK508))
   refine bodyPost_ret (results_cell_row rfl _ _ gb508 24 #[.int .i64 1, .bool a0, .int .u64 18446744073709551615, .int .i64 1048576] (0, 0) _ rfl (by refine kb_ ?_; refine bp_ #[.int .i64 1, .bool a0, .int .u64 18446744073709551615, .int .i64 0] 3 ?_; refine bp_ #[.int .i64 1, .bool a0, .int .u64 0, .int .i64 0] 2 ?_; refine bp_ #[.int .i64 1, .bool false, .int .u64 0, .int .i64 0] 1 ?_; refine bp_ #[.int .i64 0, .bool false, .int .u64 0, .int .i64 0] 0 ?_; exact BK508.out) Try.underlying24 rfl (by kernel_rfl)) rfl ?_
   exact ⟨rf_, bw_ HB.out⟩
 ·rw [if_neg c5] at H
  have c5b0 : decide (1048576 < a2) = false := decide_eq_false c5
  clear c5
  by_cases c13 : a2 < (-1048576)
  ·rw [if_pos c13] at H
   have c13b0 : decide (a2 < (-1048576)) = true := decide_eq_true c13
   clear c13
   by_cases c14 : a3 = true
   ·subst c14
    have H1 : (some (1, a0, 9223372036854775808, (-1048576))) = some (r1, r2, r3, r4) := by rw [if_pos rfl] at H; exact H
    clear H
    have H := H1
    clear H1
    simp only [Option.some.injEq, Prod.mk.injEq] at H
    obtain ⟨rfl, rfl, rfl, rfl⟩ := H
    go_enter Try.func58, Try.ntmps58
    go_wp2_with (first | ((with_reducible refine gate_dst (N := 8) rfl ?_); refine bx_ 8 #[.int .i64 0, .bool false, .int .u64 0, .int .i64 0] 24 ?_; intro gb508 hg w15 hbox hb; have n0_ := bq_ HB hb; have n1_ := Aside0.mk (hbox); have n2_ := ge_ hg HB; have n3_ := ge_ hg HB; clear HB; have HB := n0_; have BK508 := n1_; have GW508 := n2_; have GE508 := n3_; clear n0_ n1_ n2_ n3_; clear hb hbox hg; obtain ⟨hcz16_0, hcz16_1, hcz16_2, hcz16_3, hfz16_0, hfz16_1, hfz16_2, hfz16_3⟩ := c4_ BK508))
    refine bodyPost_ret (results_cell_row rfl _ _ gb508 24 #[.int .i64 1, .bool a0, .int .u64 9223372036854775808, .int .i64 (-1048576)] (0, 0) _ rfl (by refine kb_ ?_; refine bp_ #[.int .i64 1, .bool a0, .int .u64 9223372036854775808, .int .i64 0] 3 ?_; refine bp_ #[.int .i64 1, .bool a0, .int .u64 0, .int .i64 0] 2 ?_; refine bp_ #[.int .i64 1, .bool false, .int .u64 0, .int .i64 0] 1 ?_; refine bp_ #[.int .i64 0, .bool false, .int .u64 0, .int .i64 0] 0 ?_; exact BK508.out) Try.underlying24 rfl (by kernel_rfl)) rfl ?_
    exact ⟨rf_, bw_ HB.out⟩
   ·replace c14 := Bool.eq_false_iff.mpr c14
    subst c14
    have H1 : (some (0, false, 0, 0)) = some (r1, r2, r3, r4) := by rw [if_neg (show ¬ (false = true) by decide)] at H; exact H
    clear H
    have H := H1
    clear H1
    simp only [Option.some.injEq, Prod.mk.injEq] at H
    obtain ⟨rfl, rfl, rfl, rfl⟩ := H
    go_enter Try.func58, Try.ntmps58
    go_wp2_with (first | ((with_reducible refine gate_dst (N := 8) rfl ?_); refine bx_ 8 #[.int .i64 0, .bool false, .int .u64 0, .int .i64 0] 24 ?_; intro gb508 hg w17 hbox hb; have n0_ := bq_ HB hb; have n1_ := Aside0.mk (hbox); have n2_ := ge_ hg HB; have n3_ := ge_ hg HB; clear HB; have HB := n0_; have BK508 := n1_; have GW508 := n2_; have GE508 := n3_; clear n0_ n1_ n2_ n3_; clear hb hbox hg; obtain ⟨hcz18_0, hcz18_1, hcz18_2, hcz18_3, hfz18_0, hfz18_1, hfz18_2, hfz18_3⟩ := c4_ BK508))
    refine bodyPost_ret (results_cell_row rfl _ _ gb508 24 #[.int .i64 0, .bool false, .int .u64 0, .int .i64 0] (0, 0) _ rfl (by refine kb_ ?_; refine bp_ #[.int .i64 0, .bool false, .int .u64 0, .int .i64 0] 3 ?_; refine bp_ #[.int .i64 0, .bool false, .int .u64 0, .int .i64 0] 2 ?_; refine bp_ #[.int .i64 0, .bool false, .int .u64 0, .int .i64 0] 1 ?_; refine bp_ #[.int .i64 0, .bool false, .int .u64 0, .int .i64 0] 0 ?_; exact BK508.out) Try.underlying24 rfl (by kernel_rfl)) rfl ?_
    exact ⟨rf_, bw_ HB.out⟩
  ·rw [if_neg c13] at H
   have c13b0 : decide (a2 < (-1048576)) = false := decide_eq_false c13
   clear c13
   simp only [Option.some.injEq, Prod.mk.injEq] at H
   obtain ⟨rfl, rfl, rfl, rfl⟩ := H
   go_enter Try.func58, Try.ntmps58
   go_wp2_with (first | ((with_reducible refine gate_dst (N := 8) rfl ?_); refine bx_ 8 #[.int .i64 0, .bool false, .int .u64 0, .int .i64 0] 24 ?_; intro gb508 hg w19 hbox hb; have n0_ := bq_ HB hb; have n1_ := Aside0.mk (hbox); have n2_ := ge_ hg HB; have n3_ := ge_ hg HB; clear HB; have HB := n0_; have BK508 := n1_; have GW508 := n2_; have GE508 := n3_; clear n0_ n1_ n2_ n3_; clear hb hbox hg; obtain ⟨hcz20_0, hcz20_1, hcz20_2, hcz20_3, hfz20_0, hfz20_1, hfz20_2, hfz20_3⟩ := c4_ BK508))
   refine bodyPost_ret (results_cell_row rfl _ _ gb508 24 #[.int .i64 1, .bool a0, .int .u64 a1, .int .i64 a2] (0, 0) _ rfl (by refine kb_ ?_; refine bp_ #[.int .i64 1, .bool a0, .int .u64 a1, .int .i64 0] 3 ?_; refine bp_ #[.int .i64 1, .bool a0, .int .u64 0, .int .i64 0] 2 ?_; refine bp_ #[.int .i64 1, .bool false, .int .u64 0, .int .i64 0] 1 ?_; refine bp_ #[.int .i64 0, .bool false, .int .u64 0, .int .i64 0] 0 ?_; exact BK508.out) Try.underlying24 rfl (by kernel_rfl)) rfl ?_
   exact ⟨rf_, bw_ HB.out⟩

/-! ### pelorusref05_word: function 59 -/
set_option maxHeartbeats 8000000 in
set_option maxRecDepth 100000 in
theorem pelorusref05_word.calls (k : Nat) (A0 : Option Addr) (c0 : Nat) (l0 : List Int) (r : Int) (w : World) (hr0 : Kd.C (Kd.int .u32) w A0 l0.length l0) (hc0 : l0.length ≤ c0) (h : pelorusref05_word.f k l0 = some r) :
  Calls Try.prog 59 #[.slice A0 l0.length c0] w fun e w' => e = .returned (.int .u64 r) ∧ Drawn0 w w' := by
 have HR0 := Aside0.mk hr0
 have HC0 := Aside0.mk hc0
 clear hr0 hc0
 have H : (pelorusref05_word.l0 k l0 0 (wrap64 ((l0.length : Int) - 1))) = some r := h
 clear h
 have H' := Aside0.mk H
 clear H
 go_enter Try.func59, Try.ntmps59
 go_wp2
 go_loopg [3, 4] k (fun kq v3 v4 w' => ∃ (x3_1 : Int) (x4_1 : Int), v3 = .int .u64 x3_1 ∧ v4 = .int .i64 x4_1 ∧ Aside0 (pelorusref05_word.l0 kq l0 x3_1 x4_1 = some r) ∧ Aside0 (kq ≤ k) ∧ Drawn0 w w')
 case atStart => exact ⟨(0), (wrap64 ((l0.length : Int) - 1)), (by first | rfl | (simp; done) | (simp [*]; done)), (by first | rfl | (simp; done) | (simp [*]; done)), H', ⟨Nat.le_refl _⟩, by repeat (first | exact Drawn0.refl _ | apply Drawn0.step)⟩
 case round =>
  clear H'
  obtain ⟨x3_1, x4_1, rfl, rfl, HA, HK1, ⟨m1, rfl⟩⟩ := hrel
  cases gk with
  | zero => exact absurd HA.out (by simp [pelorusref05_word.l0])
  | succ k1 =>
   have H := HA.out
   clear HA
   simp only [pelorusref05_word.l0] at H
   by_cases c2 : x4_1 ≥ 0
   ·rw [if_pos c2] at H
    have c2b0 : decide (0 ≤ x4_1) = true := decide_eq_true c2
    clear c2
    by_cases c3 : 0 ≤ x4_1
    ·rw [if_pos c3] at H
     have c3b0 : decide (0 ≤ x4_1) = true := decide_eq_true c3
     clear c3
     by_cases c4 : x4_1 < (l0.length : Int)
     ·rw [if_pos c4] at H
      have c4b0 : decide (x4_1 < (l0.length : Int)) = true := decide_eq_true c4
      clear c4
      have H' := Aside0.mk H
      clear H
      have p513 : 0 ≤ (x4_1 : Int) := of_decide_eq_true (by first | (with_reducible assumption) | assumption)
      have q513 : x4_1 < (l0.length : Int) := of_decide_eq_true (by first | (with_reducible assumption) | assumption)
      obtain ⟨ad513, e513, hx513_0⟩ := Kd.at_int HR0.out x4_1 p513 q513
      cases e513
      replace p513 := eq_true p513
      replace q513 := eq_true q513
      go_wp2
      go_roundg k1
      case measure => have := HK1.out; omega
      case rel => exact ⟨(IntKind.u64.wrap ((IntKind.u64.wrap (x3_1 * 4294967296)) + (IntKind.u64.wrap (rd l0 x4_1)))), (wrap64 (x4_1 - 1)), (by first | rfl | (simp; done) | (simp [*]; done)), (by first | rfl | (simp; done) | (simp [*]; done)), H', ⟨by have := HK1.out; omega⟩, by repeat (first | exact Drawn0.refl _ | apply Drawn0.step)⟩
     ·rw [if_neg c4] at H
      exact absurd H (by simp)
    ·rw [if_neg c3] at H
     exact absurd H (by simp)
   ·rw [if_neg c2] at H
    have c2b0 : decide (0 ≤ x4_1) = false := decide_eq_false c2
    clear c2
    obtain rfl := Option.some.inj H
    go_wp2
    go_ret
    exact ⟨by first | rfl | (simp; done) | (simp [*]; done), by repeat (first | exact Drawn0.refl _ | apply Drawn0.step)⟩

end Go.Proofs.Ythlhogcnfaiphaa.PA
