-- Laid by this work's own program; Lean checks it.
import Derived.Test.YtbejmpocgnldnaaPZx0
import Derived.Test.YtbejmpocgnldnaaPZx1
import Derived.Test.YtbejmpocgnldnaaPZx9
namespace Go.Proofs.Ytbejmpocgnldnaa.PZ
open Go.RowKit Go.Proofs.YtbejmpocgnldnaaW.PrintWords Go.Proofs.YtbejmpocgnldnaaW.PrintLast Go.Proofs.YtbejmpocgnldnaaW.PrintMore
attribute [local go_sem] max2_int min2_int max_two min_two max_three min_three max_four min_four   -- for this text's walks alone
set_option linter.unusedVariables false
set_option linter.unusedSimpArgs false

attribute [local go_sem ↓ high] isSome_set_
/-! ### pelorusref02_Int: function 18 -/
set_option maxHeartbeats 8000000 in
set_option maxRecDepth 100000 in
theorem pelorusref02_Int.calls (k : Nat) (a0_0 : Bool) (A0_1 : Option Addr) (c0_1 : Nat) (l0_1 : List Int) (r1 : Int) (r2 : Bool) (w : World) (hr0_1 : Kd.C (Kd.int .u32) w A0_1 l0_1.length l0_1) (hc0_1 : l0_1.length ≤ c0_1) (h : pelorusref02_Int.f k a0_0 l0_1 = some (r1, r2)) :
  Calls Try.prog 18 #[.agg #[.bool a0_0, .slice A0_1 l0_1.length c0_1]] w fun e w' => e = .returned (.tuple #[.int .i64 r1, .bool r2]) ∧ Below w.heap.size w w' := by
 have hu24 := Try.underlying24
 have HR0_1 := Aside0.mk hr0_1
 have HC0_1 := Aside0.mk hc0_1
 clear hr0_1 hc0_1
 have HB := Aside0.mk (Below.refl w.heap.size w)
 have H : ((pelorusref02_Make.f k a0_0 l0_1).bind fun bt480 => (if (bt480.2.length : Int) > 2 then (some (0, false)) else (pelorusref02_Int.l0 k 0 (wrap64 ((bt480.2.length : Int) - 1)) bt480.1 bt480.2))) = some (r1, r2) := h
 clear h
 replace H := Option.bind_eq_some_iff.mp H
 obtain ⟨⟨t480, t481⟩, A20, H⟩ := H
 (try dsimp only at H)
 have A2 := Aside0.mk A20
 clear A20
 by_cases c3 : (t481.length : Int) > 2
 ·rw [if_pos c3] at H
  have c3b0 : decide (2 < (t481.length : Int)) = true := decide_eq_true c3
  have c3b1 : decide (2 < t481.length) = true := decide_eq_true (by omega)
  clear c3
  simp only [Option.some.injEq, Prod.mk.injEq] at H
  obtain ⟨rfl, rfl⟩ := H
  go_enter Try.func18, Try.ntmps18
  go_wp2_with (first | ((with_reducible refine gate_dst (N := 1) rfl ?_); refine bx_ 1 #[.bool a0_0, .slice A0_1 l0_1.length c0_1] 24 ?_; intro gb479 hg w4 hbox hb; have BK479 := Aside0.mk (hbox); have GW479 := ge_ hg HB; have GE479 := ge_ hg HB; replace HB := bq_ HB hb; clear hb hbox hg; obtain ⟨hcz5_0, hcz5_1, hfz5_0, hfz5_1⟩ := c2_ BK479) | ((with_reducible refine gate_callee (f := 20) rfl ?_); refine gl_ (some 11) Try.func20 #[.bool a0_0, .slice A0_1 l0_1.length c0_1] ?_; (with_reducible refine (pelorusref02_Make.calls k a0_0 _ _ l0_1 t480 t481 _ ?side1 ?side2 A2.out).mono ?_); (case side1 => exact kc_ (Kd.C_below HR0_1.out HB.out)); (case side2 => exact HC0_1.out); rintro e w6 ⟨v482, rfl, ho0, hb⟩; refine ⟨_, rfl, ?_⟩; have HO483 := Aside0.mk (Kd.R_lower ho0 (below_size (bw_ HB.out))); replace BK479 := kq_ BK479 hb; replace HB := bq_ HB hb; (try clear hb); (try clear hb2); (try clear hk); (try clear hi); (try clear ho0)) | ((with_reducible refine gate_dst (N := 4) rfl ?_); refine bx_ 4 #[.bool false, .slice none 0 0] 24 ?_; intro gb484 hg w7 hbox hb; have BK484 := Aside0.mk (hbox); have GW484 := ge_ hg HB; have GE484 := ge_ hg HB; have NB479_484 := nb_ hg BK479; have NB484_479 := nc_ hg BK479; replace HO483 := Aside0.mk (Kd.R_below (kr_ HO483.out) hb); replace BK479 := kq_ BK479 hb; replace HB := bq_ HB hb; clear hb hbox hg; have hnb8 := NB484_479.out; have hnc8 := NB479_484.out; obtain ⟨hcz9_0, hcz9_1, hfz9_0, hfz9_1⟩ := c2_ BK484; obtain ⟨Ao10, co10, eo10⟩ := Kd.R_slice HO483.out; subst eo10))
  go_ret2
  exact ⟨rf_, bw_ HB.out⟩
 ·rw [if_neg c3] at H
  have c3b0 : decide (2 < (t481.length : Int)) = false := decide_eq_false c3
  have c3b1 : decide (2 < t481.length) = false := decide_eq_false (by omega)
  clear c3
  have H' := Aside0.mk H
  clear H
  go_enter Try.func18, Try.ntmps18
  go_wp2_with (first | ((with_reducible refine gate_dst (N := 1) rfl ?_); refine bx_ 1 #[.bool a0_0, .slice A0_1 l0_1.length c0_1] 24 ?_; intro gb479 hg w11 hbox hb; have BK479 := Aside0.mk (hbox); have GW479 := ge_ hg HB; have GE479 := ge_ hg HB; replace HB := bq_ HB hb; clear hb hbox hg; obtain ⟨hcz12_0, hcz12_1, hfz12_0, hfz12_1⟩ := c2_ BK479) | ((with_reducible refine gate_callee (f := 20) rfl ?_); refine gl_ (some 11) Try.func20 #[.bool a0_0, .slice A0_1 l0_1.length c0_1] ?_; (with_reducible refine (pelorusref02_Make.calls k a0_0 _ _ l0_1 t480 t481 _ ?side1 ?side2 A2.out).mono ?_); (case side1 => exact kc_ (Kd.C_below HR0_1.out HB.out)); (case side2 => exact HC0_1.out); rintro e w13 ⟨v482, rfl, ho0, hb⟩; refine ⟨_, rfl, ?_⟩; have HO483 := Aside0.mk (Kd.R_lower ho0 (below_size (bw_ HB.out))); replace BK479 := kq_ BK479 hb; replace HB := bq_ HB hb; (try clear hb); (try clear hb2); (try clear hk); (try clear hi); (try clear ho0)) | ((with_reducible refine gate_dst (N := 4) rfl ?_); refine bx_ 4 #[.bool false, .slice none 0 0] 24 ?_; intro gb484 hg w14 hbox hb; have BK484 := Aside0.mk (hbox); have GW484 := ge_ hg HB; have GE484 := ge_ hg HB; have NB479_484 := nb_ hg BK479; have NB484_479 := nc_ hg BK479; replace HO483 := Aside0.mk (Kd.R_below (kr_ HO483.out) hb); replace BK479 := kq_ BK479 hb; replace HB := bq_ HB hb; clear hb hbox hg; have hnb15 := NB484_479.out; have hnc15 := NB479_484.out; obtain ⟨hcz16_0, hcz16_1, hfz16_0, hfz16_1⟩ := c2_ BK484; obtain ⟨Ao17, co17, eo17⟩ := Kd.R_slice HO483.out; subst eo17))
  go_loopg [5, 6] k (fun kq v5 v6 w' => ∃ (x5_1 : Int) (x6_1 : Int), v5 = .int .u64 x5_1 ∧ v6 = .int .i64 x6_1 ∧ Aside0 (pelorusref02_Int.l0 kq x5_1 x6_1 t480 t481 = some (r1, r2)) ∧ Aside0 (kq ≤ k) ∧ Aside0 (Kd.R (Kd.int .u32) 47 w' w.heap.size (fun _ => True) (.slice Ao17 t481.length co17) t481) ∧ Aside0 (w'.heap[gb479]? = some (.cells #[.bool a0_0, (.slice A0_1 l0_1.length c0_1)] 24 (0, 0))) ∧ Aside0 (w'.heap[gb484]? = some (.cells #[.bool t480, (.slice Ao17 t481.length co17)] 24 (0, 0))) ∧ Aside0 (Below w.heap.size w w'))
  case atStart => exact ⟨(0), (wrap64 ((t481.length : Int) - 1)), (by first | rfl | (simp; done) | (simp [*]; done)), (by first | rfl | (simp; done) | (simp [*]; done)), H', ⟨Nat.le_refl _⟩, ⟨by (with_reducible repeat (first | apply Kd.R_alloc | apply Kd.R_drewN | apply Kd.R_drew)); exact Kd.R_mono (Kd.R_far (p := ⟨gb484, 1, none⟩) (Kd.R_far (p := ⟨gb484, 0, none⟩) (Kd.R_types HO483.out BK484.out (by decide)) (fun _ hk => hk.2) (.bool t480)) (fun _ hk => hk.2) (.slice Ao17 t481.length co17)) (fun _ hk => trivial)⟩, ⟨by refine kb_ ?_; refine bf_ NB479_484 ?_; refine bf_ NB479_484 ?_; exact BK479.out⟩, ⟨by refine kb_ ?_; refine bp_ #[.bool t480, .slice none 0 0] 1 ?_; refine bp_ #[.bool false, .slice none 0 0] 0 ?_; exact BK484.out⟩, ⟨bw_ HB.out⟩⟩
  case round =>
   clear H'
   try clear c1
   try clear c2
   try clear p2
   try clear c3
   try clear c3b0
   try clear c3b1
   try clear p6
   try clear c8
   try clear c15
   try clear hcz12_0 hcz12_1
   try clear hcz16_0 hcz16_1
   try clear hcz5_0 hcz5_1
   try clear hcz9_0 hcz9_1
   try clear hfz12_0 hfz12_1
   try clear hfz16_0 hfz16_1
   try clear hfz5_0 hfz5_1
   try clear hfz9_0 hfz9_1
   obtain ⟨x5_1, x6_1, rfl, rfl, HA, HK1, HO_485001, BK479, BK484, HB⟩ := hrel
   cases gk with
   | zero => exact absurd HA.out (by simp [pelorusref02_Int.l0])
   | succ k1 =>
    have H := HA.out
    clear HA
    simp only [pelorusref02_Int.l0] at H
    by_cases c18 : x6_1 ≥ 0
    ·rw [if_pos c18] at H
     have c18b0 : decide (0 ≤ x6_1) = true := decide_eq_true c18
     clear c18
     by_cases c19 : 0 ≤ x6_1
     ·rw [if_pos c19] at H
      have c19b0 : decide (0 ≤ x6_1) = true := decide_eq_true c19
      clear c19
      by_cases c20 : x6_1 < (t481.length : Int)
      ·rw [if_pos c20] at H
       have c20b0 : decide (x6_1 < (t481.length : Int)) = true := decide_eq_true c20
       clear c20
       have H' := Aside0.mk H
       clear H
       have hnb21 := NB484_479.out
       have hnc21 := NB479_484.out
       obtain ⟨hcz22_0, hcz22_1, hfz22_0, hfz22_1⟩ := c2_ BK484
       have p485 : 0 ≤ (x6_1 : Int) := of_decide_eq_true (by first | (with_reducible assumption) | assumption)
       have q485 : x6_1 < (t481.length : Int) := of_decide_eq_true (by first | (with_reducible assumption) | assumption)
       obtain ⟨ad485, e485, hx485_0⟩ := Kd.at_int (Kd.R_reads' HO_485001.out).2.2 x6_1 p485 q485
       cases e485
       replace p485 := eq_true p485
       replace q485 := eq_true q485
       go_wp2
       go_roundg k1
       case measure => have := HK1.out; omega
       case rel => exact ⟨(IntKind.u64.wrap ((IntKind.u64.wrap (x5_1 * 4294967296)) + (IntKind.u64.wrap (rd t481 x6_1)))), (wrap64 (x6_1 - 1)), (by first | rfl | (simp; done) | (simp [*]; done)), (by first | rfl | (simp; done) | (simp [*]; done)), H', ⟨by have := HK1.out; omega⟩, ⟨by (with_reducible repeat (first | apply Kd.R_alloc | apply Kd.R_drewN | apply Kd.R_drew)); exact HO_485001.out⟩, ⟨kb_ BK479.out⟩, ⟨kb_ BK484.out⟩, ⟨bw_ HB.out⟩⟩
      ·rw [if_neg c20] at H
       exact absurd H (by simp)
     ·rw [if_neg c19] at H
      exact absurd H (by simp)
    ·rw [if_neg c18] at H
     have c18b0 : decide (0 ≤ x6_1) = false := decide_eq_false c18
     clear c18
     have HC23 := Aside0.mk H
     clear H
     go_upto_region 9 with (fail)
     go_cut [38] (fun v38 wc => ∃ (kq : Nat) (x38_22 : Bool), v38 = .bool x38_22 ∧ Aside0 (pelorusref02_Int.j1 kq x5_1 x38_22 t480 t481 = some (r1, r2)) ∧ Aside0 (kq ≤ k1) ∧ Aside0 (Kd.R (Kd.int .u32) 47 wc w.heap.size (fun _ => True) (.slice Ao17 t481.length co17) t481) ∧ Aside0 (wc.heap[gb479]? = some (.cells #[.bool a0_0, (.slice A0_1 l0_1.length c0_1)] 24 (0, 0))) ∧ Aside0 (wc.heap[gb484]? = some (.cells #[.bool t480, (.slice Ao17 t481.length co17)] 24 (0, 0))) ∧ Aside0 (Below w.heap.size w wc))
     case first =>
      have H := HC23.out
      clear HC23
      by_cases c24 : t480 = true
      ·subst c24
       have H1 : (pelorusref02_Int.j1 k1 x5_1 (decide (x5_1 ≤ 9223372036854775808)) true t481) = some (r1, r2) := by rw [if_pos rfl] at H; exact H
       clear H
       have H := H1
       clear H1
       have H' := Aside0.mk H
       clear H
       have hnb25 := NB484_479.out
       have hnc25 := NB479_484.out
       obtain ⟨hcz26_0, hcz26_1, hfz26_0, hfz26_1⟩ := c2_ BK484
       go_wp2
       go_meet
       case rel => exact ⟨_, (decide (x5_1 ≤ 9223372036854775808)), (by first | rfl | (simp; done) | (simp [*]; done)), H', ⟨by have := HK1.out; first | omega | exact Nat.le_refl _⟩, ⟨by (with_reducible repeat (first | apply Kd.R_alloc | apply Kd.R_drewN | apply Kd.R_drew)); exact HO_485001.out⟩, ⟨kb_ BK479.out⟩, ⟨kb_ BK484.out⟩, ⟨bw_ HB.out⟩⟩
      ·replace c24 := Bool.eq_false_iff.mpr c24
       subst c24
       have H1 : (pelorusref02_Int.j1 k1 x5_1 false false t481) = some (r1, r2) := by rw [if_neg (show ¬ (false = true) by decide)] at H; exact H
       clear H
       have H := H1
       clear H1
       have H' := Aside0.mk H
       clear H
       have hnb27 := NB484_479.out
       have hnc27 := NB479_484.out
       obtain ⟨hcz28_0, hcz28_1, hfz28_0, hfz28_1⟩ := c2_ BK484
       go_wp2
       go_meet
       case rel => exact ⟨_, (false), (by first | rfl | (simp; done) | (simp [*]; done)), H', ⟨by have := HK1.out; first | omega | exact Nat.le_refl _⟩, ⟨by (with_reducible repeat (first | apply Kd.R_alloc | apply Kd.R_drewN | apply Kd.R_drew)); exact HO_485001.out⟩, ⟨kb_ BK479.out⟩, ⟨kb_ BK484.out⟩, ⟨bw_ HB.out⟩⟩
     case rest =>
      clear HC23
      try clear c1
      try clear c2
      try clear p2
      try clear c3
      try clear c3b0
      try clear c3b1
      try clear p4
      try clear q4
      try clear hx4
      try clear p6
      try clear c8
      try clear c15
      try clear c18
      try clear c18b0
      try clear c19
      try clear c19b0
      try clear c20
      try clear c20b0
      try clear c21
      try clear c24
      try clear c25
      try clear c27
      try clear hcz12_0 hcz12_1
      try clear hcz16_0 hcz16_1
      try clear hcz22_0 hcz22_1
      try clear hcz26_0 hcz26_1
      try clear hcz28_0 hcz28_1
      try clear hcz5_0 hcz5_1
      try clear hcz9_0 hcz9_1
      try clear hfz12_0 hfz12_1
      try clear hfz16_0 hfz16_1
      try clear hfz22_0 hfz22_1
      try clear hfz26_0 hfz26_1
      try clear hfz28_0 hfz28_1
      try clear hfz5_0 hfz5_1
      try clear hfz9_0 hfz9_1
      try clear hx485_0
      try clear p2
      try clear p485
      try clear p6
      try clear q485
      obtain ⟨kq, x38_22, rfl, HA, HJ22, HO_485001, BK479, BK484, HB⟩ := hcut
      cases kq with
      | zero => exact absurd HA.out (by simp [pelorusref02_Int.j1])
      | succ kj22 =>
       have H := HA.out
       clear HA
       simp only [pelorusref02_Int.j1] at H
       by_cases c29 : x38_22 = true
       ·subst c29
        have H1 : (if x5_1 = 0 then (some (0, true)) else (some (wrap64 ((wrap64 (-(wrap64 (IntKind.u64.wrap (x5_1 - 1))))) - 1), true))) = some (r1, r2) := by rw [if_pos rfl] at H; exact H
        clear H
        have H := H1
        clear H1
        by_cases c30 : x5_1 = 0
        ·rw [if_pos c30] at H
         have c30b0 : (x5_1 == 0) = true := beq_iff_eq.mpr c30
         have c30b1 : (x5_1 != 0) = false := bne_eq_false_iff_eq.mpr c30
         clear c30
         simp only [Option.some.injEq, Prod.mk.injEq] at H
         obtain ⟨rfl, rfl⟩ := H
         go_wp2
         go_ret2
         exact ⟨rf_, bw_ HB.out⟩
        ·rw [if_neg c30] at H
         have c30b0 : (x5_1 == 0) = false := beq_eq_false_iff_ne.mpr c30
         have c30b1 : (x5_1 != 0) = true := bne_iff_ne.mpr c30
         simp only [Option.some.injEq, Prod.mk.injEq] at H
         obtain ⟨rfl, rfl⟩ := H
         go_wp2
         go_ret2
         exact ⟨rf_, bw_ HB.out⟩
       ·replace c29 := Bool.eq_false_iff.mpr c29
        subst c29
        have H1 : (if t480 = true then (some (0, false)) else (if x5_1 ≥ 9223372036854775808 then (some (0, false)) else (some (wrap64 (x5_1), true)))) = some (r1, r2) := by rw [if_neg (show ¬ (false = true) by decide)] at H; exact H
        clear H
        have H := H1
        clear H1
        by_cases c31 : t480 = true
        ·subst c31
         have H1 : (some (0, false)) = some (r1, r2) := by rw [if_pos rfl] at H; exact H
         clear H
         have H := H1
         clear H1
         simp only [Option.some.injEq, Prod.mk.injEq] at H
         obtain ⟨rfl, rfl⟩ := H
         have hnb32 := NB484_479.out
         have hnc32 := NB479_484.out
         obtain ⟨hcz33_0, hcz33_1, hfz33_0, hfz33_1⟩ := c2_ BK484
         go_wp2
         go_ret2
         exact ⟨rf_, bw_ HB.out⟩
        ·replace c31 := Bool.eq_false_iff.mpr c31
         subst c31
         have H1 : (if x5_1 ≥ 9223372036854775808 then (some (0, false)) else (some (wrap64 (x5_1), true))) = some (r1, r2) := by rw [if_neg (show ¬ (false = true) by decide)] at H; exact H
         clear H
         have H := H1
         clear H1
         by_cases c34 : x5_1 ≥ 9223372036854775808
         ·rw [if_pos c34] at H
          have c34b0 : decide (9223372036854775808 ≤ x5_1) = true := decide_eq_true c34
          clear c34
          simp only [Option.some.injEq, Prod.mk.injEq] at H
          obtain ⟨rfl, rfl⟩ := H
          have hnb35 := NB484_479.out
          have hnc35 := NB479_484.out
          obtain ⟨hcz36_0, hcz36_1, hfz36_0, hfz36_1⟩ := c2_ BK484
          go_wp2
          go_ret2
          exact ⟨rf_, bw_ HB.out⟩
         ·rw [if_neg c34] at H
          have c34b0 : decide (9223372036854775808 ≤ x5_1) = false := decide_eq_false c34
          clear c34
          simp only [Option.some.injEq, Prod.mk.injEq] at H
          obtain ⟨rfl, rfl⟩ := H
          have hnb37 := NB484_479.out
          have hnc37 := NB479_484.out
          obtain ⟨hcz38_0, hcz38_1, hfz38_0, hfz38_1⟩ := c2_ BK484
          go_wp2
          go_ret2
          exact ⟨rf_, bw_ HB.out⟩

/-! ### whole_May: function 22 -/
set_option maxHeartbeats 8000000 in
set_option maxRecDepth 100000 in
theorem whole_May.calls (a0_0 : Bool) (A0_1 : Option Addr) (c0_1 : Nat) (l0_1 : List Int) (r : Bool) (w : World) (hr0_1 : Kd.C (Kd.int .u32) w A0_1 l0_1.length l0_1) (hc0_1 : l0_1.length ≤ c0_1) (h : whole_May.f a0_0 l0_1 = some r) :
  Calls Try.prog 22 #[.agg #[.bool a0_0, .slice A0_1 l0_1.length c0_1]] w fun e w' => e = .returned (.bool r) ∧ Below w.heap.size w w' := by
 have hu24 := Try.underlying24
 have HR0_1 := Aside0.mk hr0_1
 have HC0_1 := Aside0.mk hc0_1
 clear hr0_1 hc0_1
 have HB := Aside0.mk (Below.refl w.heap.size w)
 have H : (if (l0_1.length : Int) = 0 then (some (!a0_0)) else (if 0 ≤ (wrap64 ((l0_1.length : Int) - 1)) then (if (wrap64 ((l0_1.length : Int) - 1)) < (l0_1.length : Int) then (some ((rd l0_1 (wrap64 ((l0_1.length : Int) - 1))) != 0)) else (none)) else (none))) = some r := h
 clear h
 by_cases c2 : (l0_1.length : Int) = 0
 ·rw [if_pos c2] at H
  have c2b0 : ((l0_1.length : Int) == 0) = true := beq_iff_eq.mpr c2
  have c2b1 : ((l0_1.length : Int) != 0) = false := bne_eq_false_iff_eq.mpr c2
  clear c2
  obtain rfl := Option.some.inj H
  go_enter Try.func22, Try.ntmps22
  go_wp2_with (first | ((with_reducible refine gate_dst (N := 1) rfl ?_); refine bx_ 1 #[.bool a0_0, .slice A0_1 l0_1.length c0_1] 24 ?_; intro gb501 hg w3 hbox hb; have BK501 := Aside0.mk (hbox); have GW501 := ge_ hg HB; have GE501 := ge_ hg HB; replace HB := bq_ HB hb; clear hb hbox hg; obtain ⟨hcz4_0, hcz4_1, hfz4_0, hfz4_1⟩ := c2_ BK501))
  go_ret
  exact ⟨rf_, bw_ HB.out⟩
 ·rw [if_neg c2] at H
  have c2b0 : ((l0_1.length : Int) == 0) = false := beq_eq_false_iff_ne.mpr c2
  have c2b1 : ((l0_1.length : Int) != 0) = true := bne_iff_ne.mpr c2
  have c2b2 : ¬ (l0_1 = []) := fun h_ => c2 (by rw [h_]; rfl)
  obtain ⟨ji5, hji5⟩ : ∃ j_ : Int, (wrap64 ((l0_1.length : Int) - 1)) = j_ := ⟨_, rfl⟩
  (first | rw [hji5] at H | simp only [hji5] at H)
  have hji5w : (IntKind.i64.wrap ((l0_1.length : Int) - 1)) = ji5 := (i64_w _).trans hji5
  by_cases c6 : 0 ≤ (ji5)
  ·rw [if_pos c6] at H
   have c6b0 : decide (0 ≤ (ji5)) = true := decide_eq_true c6
   clear c6
   by_cases c7 : (ji5) < (l0_1.length : Int)
   ·rw [if_pos c7] at H
    have c7b0 : decide ((ji5) < (l0_1.length : Int)) = true := decide_eq_true c7
    clear c7
    obtain rfl := Option.some.inj H
    go_enter Try.func22, Try.ntmps22
    go_wp2_with (first | ((with_reducible refine gate_dst (N := 1) rfl ?_); refine bx_ 1 #[.bool a0_0, .slice A0_1 l0_1.length c0_1] 24 ?_; intro gb501 hg w8 hbox hb; have BK501 := Aside0.mk (hbox); have GW501 := ge_ hg HB; have GE501 := ge_ hg HB; replace HB := bq_ HB hb; clear hb hbox hg; obtain ⟨hcz9_0, hcz9_1, hfz9_0, hfz9_1⟩ := c2_ BK501; have p502 : 0 ≤ ((ji5) : Int) := of_decide_eq_true (by first | (with_reducible assumption) | assumption); have q502 : (ji5) < (l0_1.length : Int) := of_decide_eq_true (by first | (with_reducible assumption) | assumption); obtain ⟨ad502, e502, hx502_0⟩ := Kd.at_int HR0_1.out (ji5) p502 q502; cases e502; replace hx502_0 := (HB.out.cell (World.block_lt_of_cell? w _ hx502_0)).trans hx502_0; replace p502 := eq_true p502; replace q502 := eq_true q502))
    go_ret
    exact ⟨by first | rfl | (simp [errW_none, errW_some] <;> rfl) | (simp only [← hji5]; first | rfl | (simp [errW_none, errW_some] <;> rfl)) | (simp [*, errW_none, errW_some] <;> rfl), bw_ HB.out⟩
   ·rw [if_neg c7] at H
    exact absurd H (by simp)
  ·rw [if_neg c6] at H
   exact absurd H (by simp)

/-! ### pelorusref02_May: function 23 -/
set_option maxHeartbeats 8000000 in
set_option maxRecDepth 100000 in
theorem pelorusref02_May.calls (a0_0 : Bool) (A0_1 : Option Addr) (c0_1 : Nat) (l0_1 : List Int) (r : Bool) (w : World) (hr0_1 : Kd.C (Kd.int .u32) w A0_1 l0_1.length l0_1) (hc0_1 : l0_1.length ≤ c0_1) (h : pelorusref02_May.f a0_0 l0_1 = some r) :
  Calls Try.prog 23 #[.agg #[.bool a0_0, .slice A0_1 l0_1.length c0_1]] w fun e w' => e = .returned (.bool r) ∧ Below w.heap.size w w' := by
 have hu24 := Try.underlying24
 have HR0_1 := Aside0.mk hr0_1
 have HC0_1 := Aside0.mk hc0_1
 clear hr0_1 hc0_1
 have HB := Aside0.mk (Below.refl w.heap.size w)
 have H : (if (l0_1.length : Int) = 0 then (if (l0_1.length : Int) > 0 then (some true) else (some (!a0_0))) else (if 0 ≤ (wrap64 ((l0_1.length : Int) - 1)) then (if (wrap64 ((l0_1.length : Int) - 1)) < (l0_1.length : Int) then (if (rd l0_1 (wrap64 ((l0_1.length : Int) - 1))) = 0 then (some false) else (if (l0_1.length : Int) > 0 then (some true) else (some (!a0_0)))) else (none)) else (none))) = some r := h
 clear h
 by_cases c2 : (l0_1.length : Int) = 0
 ·rw [if_pos c2] at H
  have c2b0 : ((l0_1.length : Int) == 0) = true := beq_iff_eq.mpr c2
  have c2b1 : ((l0_1.length : Int) != 0) = false := bne_eq_false_iff_eq.mpr c2
  clear c2
  by_cases c3 : (l0_1.length : Int) > 0
  ·rw [if_pos c3] at H
   have c3b0 : decide (0 < (l0_1.length : Int)) = true := decide_eq_true c3
   have c3b1 : decide (0 < l0_1.length) = true := decide_eq_true (by omega)
   clear c3
   obtain rfl := Option.some.inj H
   go_enter Try.func23, Try.ntmps23
   go_wp2_with (first | ((with_reducible refine gate_dst (N := 1) rfl ?_); refine bx_ 1 #[.bool a0_0, .slice A0_1 l0_1.length c0_1] 24 ?_; intro gb503 hg w4 hbox hb; have BK503 := Aside0.mk (hbox); have GW503 := ge_ hg HB; have GE503 := ge_ hg HB; replace HB := bq_ HB hb; clear hb hbox hg; obtain ⟨hcz5_0, hcz5_1, hfz5_0, hfz5_1⟩ := c2_ BK503))
   go_ret
   exact ⟨rf_, bw_ HB.out⟩
  ·rw [if_neg c3] at H
   have c3b0 : decide (0 < (l0_1.length : Int)) = false := decide_eq_false c3
   have c3b1 : decide (0 < l0_1.length) = false := decide_eq_false (by omega)
   clear c3
   obtain rfl := Option.some.inj H
   go_enter Try.func23, Try.ntmps23
   go_wp2_with (first | ((with_reducible refine gate_dst (N := 1) rfl ?_); refine bx_ 1 #[.bool a0_0, .slice A0_1 l0_1.length c0_1] 24 ?_; intro gb503 hg w6 hbox hb; have BK503 := Aside0.mk (hbox); have GW503 := ge_ hg HB; have GE503 := ge_ hg HB; replace HB := bq_ HB hb; clear hb hbox hg; obtain ⟨hcz7_0, hcz7_1, hfz7_0, hfz7_1⟩ := c2_ BK503))
   go_ret
   exact ⟨rf_, bw_ HB.out⟩
 ·rw [if_neg c2] at H
  have c2b0 : ((l0_1.length : Int) == 0) = false := beq_eq_false_iff_ne.mpr c2
  have c2b1 : ((l0_1.length : Int) != 0) = true := bne_iff_ne.mpr c2
  have c2b2 : ¬ (l0_1 = []) := fun h_ => c2 (by rw [h_]; rfl)
  obtain ⟨ji8, hji8⟩ : ∃ j_ : Int, (wrap64 ((l0_1.length : Int) - 1)) = j_ := ⟨_, rfl⟩
  (first | rw [hji8] at H | simp only [hji8] at H)
  have hji8w : (IntKind.i64.wrap ((l0_1.length : Int) - 1)) = ji8 := (i64_w _).trans hji8
  by_cases c9 : 0 ≤ (ji8)
  ·rw [if_pos c9] at H
   have c9b0 : decide (0 ≤ (ji8)) = true := decide_eq_true c9
   clear c9
   by_cases c10 : (ji8) < (l0_1.length : Int)
   ·rw [if_pos c10] at H
    have c10b0 : decide ((ji8) < (l0_1.length : Int)) = true := decide_eq_true c10
    clear c10
    by_cases c11 : (rd l0_1 (ji8)) = 0
    ·rw [if_pos c11] at H
     have c11b0 : ((rd l0_1 (ji8)) == 0) = true := beq_iff_eq.mpr c11
     have c11b1 : ((rd l0_1 (ji8)) != 0) = false := bne_eq_false_iff_eq.mpr c11
     clear c11
     obtain rfl := Option.some.inj H
     go_enter Try.func23, Try.ntmps23
     go_wp2_with (first | ((with_reducible refine gate_dst (N := 1) rfl ?_); refine bx_ 1 #[.bool a0_0, .slice A0_1 l0_1.length c0_1] 24 ?_; intro gb503 hg w12 hbox hb; have BK503 := Aside0.mk (hbox); have GW503 := ge_ hg HB; have GE503 := ge_ hg HB; replace HB := bq_ HB hb; clear hb hbox hg; obtain ⟨hcz13_0, hcz13_1, hfz13_0, hfz13_1⟩ := c2_ BK503; have p504 : 0 ≤ ((ji8) : Int) := of_decide_eq_true (by first | (with_reducible assumption) | assumption); have q504 : (ji8) < (l0_1.length : Int) := of_decide_eq_true (by first | (with_reducible assumption) | assumption); obtain ⟨ad504, e504, hx504_0⟩ := Kd.at_int HR0_1.out (ji8) p504 q504; cases e504; replace hx504_0 := (HB.out.cell (World.block_lt_of_cell? w _ hx504_0)).trans hx504_0; replace p504 := eq_true p504; replace q504 := eq_true q504))
     go_ret
     exact ⟨by first | rfl | (simp [errW_none, errW_some] <;> rfl) | (simp only [← hji8]; first | rfl | (simp [errW_none, errW_some] <;> rfl)) | (simp [*, errW_none, errW_some] <;> rfl), bw_ HB.out⟩
    ·rw [if_neg c11] at H
     have c11b0 : ((rd l0_1 (ji8)) == 0) = false := beq_eq_false_iff_ne.mpr c11
     have c11b1 : ((rd l0_1 (ji8)) != 0) = true := bne_iff_ne.mpr c11
     by_cases c14 : (l0_1.length : Int) > 0
     ·rw [if_pos c14] at H
      have c14b0 : decide (0 < (l0_1.length : Int)) = true := decide_eq_true c14
      have c14b1 : decide (0 < l0_1.length) = true := decide_eq_true (by omega)
      clear c14
      obtain rfl := Option.some.inj H
      go_enter Try.func23, Try.ntmps23
      go_wp2_with (first | ((with_reducible refine gate_dst (N := 1) rfl ?_); refine bx_ 1 #[.bool a0_0, .slice A0_1 l0_1.length c0_1] 24 ?_; intro gb503 hg w15 hbox hb; have BK503 := Aside0.mk (hbox); have GW503 := ge_ hg HB; have GE503 := ge_ hg HB; replace HB := bq_ HB hb; clear hb hbox hg; obtain ⟨hcz16_0, hcz16_1, hfz16_0, hfz16_1⟩ := c2_ BK503; have p504 : 0 ≤ ((ji8) : Int) := of_decide_eq_true (by first | (with_reducible assumption) | assumption); have q504 : (ji8) < (l0_1.length : Int) := of_decide_eq_true (by first | (with_reducible assumption) | assumption); obtain ⟨ad504, e504, hx504_0⟩ := Kd.at_int HR0_1.out (ji8) p504 q504; cases e504; replace hx504_0 := (HB.out.cell (World.block_lt_of_cell? w _ hx504_0)).trans hx504_0; replace p504 := eq_true p504; replace q504 := eq_true q504))
      go_ret
      exact ⟨by first | rfl | (simp [errW_none, errW_some] <;> rfl) | (simp only [← hji8]; first | rfl | (simp [errW_none, errW_some] <;> rfl)) | (simp [*, errW_none, errW_some] <;> rfl), bw_ HB.out⟩
     ·rw [if_neg c14] at H
      have c14b0 : decide (0 < (l0_1.length : Int)) = false := decide_eq_false c14
      have c14b1 : decide (0 < l0_1.length) = false := decide_eq_false (by omega)
      clear c14
      obtain rfl := Option.some.inj H
      go_enter Try.func23, Try.ntmps23
      go_wp2_with (first | ((with_reducible refine gate_dst (N := 1) rfl ?_); refine bx_ 1 #[.bool a0_0, .slice A0_1 l0_1.length c0_1] 24 ?_; intro gb503 hg w17 hbox hb; have BK503 := Aside0.mk (hbox); have GW503 := ge_ hg HB; have GE503 := ge_ hg HB; replace HB := bq_ HB hb; clear hb hbox hg; obtain ⟨hcz18_0, hcz18_1, hfz18_0, hfz18_1⟩ := c2_ BK503; have p504 : 0 ≤ ((ji8) : Int) := of_decide_eq_true (by first | (with_reducible assumption) | assumption); have q504 : (ji8) < (l0_1.length : Int) := of_decide_eq_true (by first | (with_reducible assumption) | assumption); obtain ⟨ad504, e504, hx504_0⟩ := Kd.at_int HR0_1.out (ji8) p504 q504; cases e504; replace hx504_0 := (HB.out.cell (World.block_lt_of_cell? w _ hx504_0)).trans hx504_0; replace p504 := eq_true p504; replace q504 := eq_true q504))
      go_ret
      exact ⟨by first | rfl | (simp [errW_none, errW_some] <;> rfl) | (simp only [← hji8]; first | rfl | (simp [errW_none, errW_some] <;> rfl)) | (simp [*, errW_none, errW_some] <;> rfl), bw_ HB.out⟩
   ·rw [if_neg c10] at H
    exact absurd H (by simp)
  ·rw [if_neg c9] at H
   exact absurd H (by simp)

end Go.Proofs.Ytbejmpocgnldnaa.PZ
