-- Laid by this work's own program; Lean checks it.
import Derived.Test.YtaookeneeemfbaaDoorPAx0
import Derived.Test.YtaookeneeemfbaaDoorPAx1
import Derived.Test.YtaookeneeemfbaaDoorPAx10
import Derived.Test.YtaookeneeemfbaaDoorPAx11
namespace Go.Proofs.YtaookeneeemfbaaDoor.PA
open Go.RowKit Go.Proofs.YtaookeneeemfbaaDoorW.PrintWords Go.Proofs.YtaookeneeemfbaaDoorW.PrintLast Go.Proofs.YtaookeneeemfbaaDoorW.PrintMore
attribute [local go_sem] max2_int min2_int max_two min_two max_three min_three max_four min_four   -- for this text's walks alone
set_option linter.unusedVariables false
set_option linter.unusedSimpArgs false

attribute [local go_sem ↓ high] isSome_set_
/-! ### pelorusref03_Make: function 12 -/
set_option maxHeartbeats 8000000 in
set_option maxRecDepth 100000 in
theorem pelorusref03_Make.calls (k : Nat) (a0_0 : Bool) (A0_1 : Option Addr) (c0_1 : Nat) (l0_1 : List Int) (a1 : Int) (r1 : Bool) (r2 : List Int) (r3 : Int) (w : World) (hr0_1 : Kd.C (Kd.int .u32) w A0_1 l0_1.length l0_1) (hc0_1 : l0_1.length ≤ c0_1) (h : pelorusref03_Make.f k a0_0 l0_1 a1 = some (r1, r2, r3)) :
  Calls Tryd.prog 12 #[.agg #[.bool a0_0, .slice A0_1 l0_1.length c0_1], .int .i64 a1] w fun e w' => ∃ v1_ : Value, e = .returned (.agg #[.bool r1, v1_, .int .i64 r3]) ∧ Kd.R (Kd.int .u32) 51 w' w.heap.size (fun _ => True) v1_ r2 ∧ Below w.heap.size w w' := by
 have hu24 := Tryd.underlying24
 have hu27 := Tryd.underlying27
 have HR0_1 := Aside0.mk hr0_1
 have HC0_1 := Aside0.mk hc0_1
 clear hr0_1 hc0_1
 have HB := Aside0.mk (Below.refl w.heap.size w)
 have H : ((pelorusref02_Make.f k a0_0 l0_1).bind fun bt548 => (if (bt548.2.length : Int) = 0 then (pelorusref03_Make.j0 k a1 true bt548.1 bt548.2) else (if a1 < (-4194304) then (pelorusref03_Make.j0 k a1 true bt548.1 bt548.2) else (pelorusref03_Make.j0 k a1 (decide (a1 > 4194304)) bt548.1 bt548.2)))) = some (r1, r2, r3) := h
 clear h
 replace H := Option.bind_eq_some_iff.mp H
 obtain ⟨⟨t548, t549⟩, A30, H⟩ := H
 (try dsimp only at H)
 have A3 := Aside0.mk A30
 clear A30
 have HC4 := Aside0.mk H
 clear H
 go_enter Tryd.func12, Tryd.ntmps12
 go_upto_region 2 with (first | ((with_reducible refine gate_dst (N := 2) rfl ?_); refine bx_ 2 #[.bool a0_0, .slice A0_1 l0_1.length c0_1] 24 ?_; intro gb546 hg w5 hbox hb; have BK546 := Aside0.mk (hbox); have GW546 := ge_ hg HB; have GE546 := ge_ hg HB; replace HB := bq_ HB hb; clear hb hbox hg) | ((with_reducible refine gate_dst (N := 4) rfl ?_); refine bx_ 4 #[.bool false, .slice none 0 0, .int .i64 0] 27 ?_; intro gb547 hg w6 hbox hb; have BK547 := Aside0.mk (hbox); have GW547 := ge_ hg HB; have GE547 := ge_ hg HB; have NB546_547 := nb_ hg BK546; have NB547_546 := nc_ hg BK546; replace BK546 := kq_ BK546 hb; replace HB := bq_ HB hb; clear hb hbox hg; have hnb7 := NB546_547.out; have hnc7 := NB547_546.out; obtain ⟨hcz8_0, hcz8_1, hfz8_0, hfz8_1⟩ := c2_ BK546) | ((with_reducible refine gate_callee (f := 43) rfl ?_); refine gl_ (some 12) Tryd.func43 #[.bool a0_0, .slice A0_1 l0_1.length c0_1] ?_; (with_reducible refine (pelorusref02_Make.calls k a0_0 _ _ l0_1 t548 t549 _ ?side1 ?side2 A3.out).mono ?_); (case side1 => exact kc_ (Kd.C_below HR0_1.out HB.out)); (case side2 => exact HC0_1.out); rintro e w9 ⟨v550, rfl, ho0, hb⟩; refine ⟨_, rfl, ?_⟩; have HO551 := Aside0.mk (Kd.R_lower ho0 (below_size (bw_ HB.out))); replace BK546 := kq_ BK546 hb; replace BK547 := kq_ BK547 hb; replace HB := bq_ HB hb; (try clear hb); (try clear hb2); (try clear hk); (try clear hi); (try clear ho0)) | ((with_reducible refine gate_dst (N := 5) rfl ?_); refine bx_ 5 #[.bool false, .slice none 0 0] 24 ?_; intro gb552 hg w10 hbox hb; have BK552 := Aside0.mk (hbox); have GW552 := ge_ hg HB; have GE552 := ge_ hg HB; have NB546_552 := nb_ hg BK546; have NB552_546 := nc_ hg BK546; have NB547_552 := nb_ hg BK547; have NB552_547 := nc_ hg BK547; replace HO551 := Aside0.mk (Kd.R_below (kr_ HO551.out) hb); replace BK546 := kq_ BK546 hb; replace BK547 := kq_ BK547 hb; replace HB := bq_ HB hb; clear hb hbox hg; have hnb11 := NB552_546.out; have hnc11 := NB546_552.out; have hnb12 := NB552_547.out; have hnc12 := NB547_552.out; obtain ⟨hcz13_0, hcz13_1, hfz13_0, hfz13_1⟩ := c2_ BK552; obtain ⟨Ao14, co14, eo14⟩ := Kd.R_slice HO551.out; subst eo14))
 (try simp only [Act.put, List.setIfInBounds_toArray, List.set_cons_zero, List.set_cons_succ])
 go_cut [24] (fun v24 wc => ∃ (kq : Nat) (x24_3 : Bool), v24 = .bool x24_3 ∧ Aside0 (pelorusref03_Make.j0 kq a1 x24_3 t548 t549 = some (r1, r2, r3)) ∧ Aside0 (kq ≤ k) ∧ Aside0 (Kd.R (Kd.int .u32) 51 wc w.heap.size (fun _ => True) (.slice Ao14 t549.length co14) t549) ∧ Aside0 (wc.heap[gb546]? = some (.cells #[.bool a0_0, (.slice A0_1 l0_1.length c0_1)] 24 (0, 0))) ∧ Aside0 (wc.heap[gb547]? = some (.cells #[.bool false, (.slice none 0 0), .int .i64 0] 27 (0, 0))) ∧ Aside0 (wc.heap[gb552]? = some (.cells #[.bool t548, (.slice Ao14 t549.length co14)] 24 (0, 0))) ∧ Aside0 (Below w.heap.size w wc))
 case first =>
  have H := HC4.out
  clear HC4
  by_cases c15 : (t549.length : Int) = 0
  ·rw [if_pos c15] at H
   have c15b0 : ((t549.length : Int) == 0) = true := beq_iff_eq.mpr c15
   have c15b1 : ((t549.length : Int) != 0) = false := bne_eq_false_iff_eq.mpr c15
   clear c15
   (first | rw [c15b0] | (simp only [i64_w, i32_w]; rw [c15b0]) | skip)
   have H' := Aside0.mk H
   clear H
   have hnb16 := NB552_546.out
   have hnc16 := NB546_552.out
   have hnb17 := NB552_547.out
   have hnc17 := NB547_552.out
   obtain ⟨hcz18_0, hcz18_1, hfz18_0, hfz18_1⟩ := c2_ BK552
   go_wp2
   go_meet
   case rel => exact ⟨_, (true), (by first | rfl | (simp; done) | (simp [*]; done)), H', ⟨by first | omega | exact Nat.le_refl _⟩, ⟨by (with_reducible repeat (first | apply Kd.R_alloc | apply Kd.R_drewN | apply Kd.R_drew)); exact Kd.R_mono (Kd.R_far (p := ⟨gb552, 1, none⟩) (Kd.R_far (p := ⟨gb552, 0, none⟩) (Kd.R_types HO551.out BK552.out (by decide)) (fun _ hk => hk.2) (.bool t548)) (fun _ hk => hk.2) (.slice Ao14 t549.length co14)) (fun _ hk => trivial)⟩, ⟨by refine kb_ ?_; refine bf_ NB546_552 ?_; refine bf_ NB546_552 ?_; exact BK546.out⟩, ⟨by refine kb_ ?_; refine bf_ NB547_552 ?_; refine bf_ NB547_552 ?_; exact BK547.out⟩, ⟨by refine kb_ ?_; refine bp_ #[.bool t548, .slice none 0 0] 1 ?_; refine bp_ #[.bool false, .slice none 0 0] 0 ?_; exact BK552.out⟩, ⟨bw_ HB.out⟩⟩
  ·rw [if_neg c15] at H
   have c15b0 : ((t549.length : Int) == 0) = false := beq_eq_false_iff_ne.mpr c15
   have c15b1 : ((t549.length : Int) != 0) = true := bne_iff_ne.mpr c15
   have c15b2 : ¬ (t549 = []) := fun h_ => c15 (by rw [h_]; rfl)
   (first | rw [c15b0] | (simp only [i64_w, i32_w]; rw [c15b0]) | skip)
   by_cases c19 : a1 < (-4194304)
   ·rw [if_pos c19] at H
    have c19b0 : decide (a1 < (-4194304)) = true := decide_eq_true c19
    clear c19
    have H' := Aside0.mk H
    clear H
    have hnb20 := NB552_546.out
    have hnc20 := NB546_552.out
    have hnb21 := NB552_547.out
    have hnc21 := NB547_552.out
    obtain ⟨hcz22_0, hcz22_1, hfz22_0, hfz22_1⟩ := c2_ BK552
    go_wp2
    go_meet
    case rel => exact ⟨_, (true), (by first | rfl | (simp; done) | (simp [*]; done)), H', ⟨by first | omega | exact Nat.le_refl _⟩, ⟨by (with_reducible repeat (first | apply Kd.R_alloc | apply Kd.R_drewN | apply Kd.R_drew)); exact Kd.R_mono (Kd.R_far (p := ⟨gb552, 1, none⟩) (Kd.R_far (p := ⟨gb552, 0, none⟩) (Kd.R_types HO551.out BK552.out (by decide)) (fun _ hk => hk.2) (.bool t548)) (fun _ hk => hk.2) (.slice Ao14 t549.length co14)) (fun _ hk => trivial)⟩, ⟨by refine kb_ ?_; refine bf_ NB546_552 ?_; refine bf_ NB546_552 ?_; exact BK546.out⟩, ⟨by refine kb_ ?_; refine bf_ NB547_552 ?_; refine bf_ NB547_552 ?_; exact BK547.out⟩, ⟨by refine kb_ ?_; refine bp_ #[.bool t548, .slice none 0 0] 1 ?_; refine bp_ #[.bool false, .slice none 0 0] 0 ?_; exact BK552.out⟩, ⟨bw_ HB.out⟩⟩
   ·rw [if_neg c19] at H
    have c19b0 : decide (a1 < (-4194304)) = false := decide_eq_false c19
    clear c19
    have H' := Aside0.mk H
    clear H
    have hnb23 := NB552_546.out
    have hnc23 := NB546_552.out
    have hnb24 := NB552_547.out
    have hnc24 := NB547_552.out
    obtain ⟨hcz25_0, hcz25_1, hfz25_0, hfz25_1⟩ := c2_ BK552
    go_wp2
    go_meet
    case rel => exact ⟨_, (decide (a1 > 4194304)), (by first | rfl | (simp; done) | (simp [*]; done)), H', ⟨by first | omega | exact Nat.le_refl _⟩, ⟨by (with_reducible repeat (first | apply Kd.R_alloc | apply Kd.R_drewN | apply Kd.R_drew)); exact Kd.R_mono (Kd.R_far (p := ⟨gb552, 1, none⟩) (Kd.R_far (p := ⟨gb552, 0, none⟩) (Kd.R_types HO551.out BK552.out (by decide)) (fun _ hk => hk.2) (.bool t548)) (fun _ hk => hk.2) (.slice Ao14 t549.length co14)) (fun _ hk => trivial)⟩, ⟨by refine kb_ ?_; refine bf_ NB546_552 ?_; refine bf_ NB546_552 ?_; exact BK546.out⟩, ⟨by refine kb_ ?_; refine bf_ NB547_552 ?_; refine bf_ NB547_552 ?_; exact BK547.out⟩, ⟨by refine kb_ ?_; refine bp_ #[.bool t548, .slice none 0 0] 1 ?_; refine bp_ #[.bool false, .slice none 0 0] 0 ?_; exact BK552.out⟩, ⟨bw_ HB.out⟩⟩
 case rest =>
  clear HC4
  try clear c1
  try clear c2
  try clear p2
  try clear c4
  try clear c7
  try clear c11
  try clear c12
  try clear c15
  try clear c15b0
  try clear c15b1
  try clear c15b2
  try clear c16
  try clear c17
  try clear c19
  try clear c19b0
  try clear c20
  try clear c21
  try clear c23
  try clear c24
  try clear hcz13_0 hcz13_1
  try clear hcz18_0 hcz18_1
  try clear hcz22_0 hcz22_1
  try clear hcz25_0 hcz25_1
  try clear hcz8_0 hcz8_1
  try clear hfz13_0 hfz13_1
  try clear hfz18_0 hfz18_1
  try clear hfz22_0 hfz22_1
  try clear hfz25_0 hfz25_1
  try clear hfz8_0 hfz8_1
  obtain ⟨kq, x24_3, rfl, HA, HJ3, HO_553001, BK546, BK547, BK552, HB⟩ := hcut
  cases kq with
  | zero => exact absurd HA.out (by simp [pelorusref03_Make.j0])
  | succ kj3 =>
   have H := HA.out
   clear HA
   simp only [pelorusref03_Make.j0] at H
   by_cases c26 : x24_3 = true
   ·subst c26
    have H1 : (some (false, ([] : List Int), 0)) = some (r1, r2, r3) := by rw [if_pos rfl] at H; exact H
    clear H
    have H := H1
    clear H1
    simp only [Option.some.injEq, Prod.mk.injEq] at H
    obtain ⟨rfl, rfl, rfl⟩ := H
    have hnb27 := NB547_546.out
    have hnc27 := NB546_547.out
    have hnb28 := NB547_552.out
    have hnc28 := NB552_547.out
    obtain ⟨hcz29_0, hcz29_1, hcz29_2, hfz29_0, hfz29_1, hfz29_2⟩ := c3_ BK547
    go_wp2
    refine bodyPost_ret (results_cell_row rfl _ _ gb547 27 #[.bool false, .slice none 0 0, .int .i64 0] (0, 0) _ rfl (by refine kb_ ?_; refine bp_ #[.bool false, .slice none 0 0, .int .i64 0] 2 ?_; refine bp_ #[.bool false, .slice none 0 0, .int .i64 0] 1 ?_; refine bp_ #[.bool false, .slice none 0 0, .int .i64 0] 0 ?_; exact BK547.out) Tryd.underlying27 rfl (by kernel_rfl)) rfl ?_
    exact ⟨_, rf_, by first | exact Kd.R_nil _ _ _ _ _ | exact Kd.N_nil _ _ _ _ _ | exact Kd.V_nil _ _ _ _ _ | exact Kd.Q_nil _ _ _ _ _ | exact Kd.S_nil _ _ _ _ _, bw_ HB.out⟩
   ·replace c26 := Bool.eq_false_iff.mpr c26
    subst c26
    have H1 : (pelorusref03_Make.l0 kj3 a1 0 t548 t549) = some (r1, r2, r3) := by rw [if_neg (show ¬ (false = true) by decide)] at H; exact H
    clear H
    have H := H1
    clear H1
    have H' := Aside0.mk H
    clear H
    go_wp2
    go_loopg [1, 6] kj3 (fun kq v1 v6 w' => ∃ (x1_2 : Int) (x6_2 : Int) (x553000_2 : Bool) (x553001_2 : List Int) (u553001 : Value), v1 = .int .i64 x1_2 ∧ v6 = .int .i64 x6_2 ∧ Aside0 (pelorusref03_Make.l0 kq x1_2 x6_2 x553000_2 x553001_2 = some (r1, r2, r3)) ∧ Aside0 (kq ≤ kj3) ∧ Aside0 (Kd.R (Kd.int .u32) 51 w' w.heap.size (fun _ => True) u553001 x553001_2) ∧ Aside0 (w'.heap[gb546]? = some (.cells #[.bool a0_0, (.slice A0_1 l0_1.length c0_1)] 24 (0, 0))) ∧ Aside0 (w'.heap[gb547]? = some (.cells #[.bool false, (.slice none 0 0), .int .i64 0] 27 (0, 0))) ∧ Aside0 (w'.heap[gb552]? = some (.cells #[.bool x553000_2, u553001] 24 (0, 0))) ∧ Aside0 (Below w.heap.size w w'))
    case atStart => exact ⟨(a1), (0), (t548), (t549), (.slice Ao14 t549.length co14), (by first | rfl | (simp; done) | (simp [*]; done)), (by first | rfl | (simp; done) | (simp [*]; done)), H', ⟨Nat.le_refl _⟩, ⟨by (with_reducible repeat (first | apply Kd.R_alloc | apply Kd.R_drewN | apply Kd.R_drew)); exact HO_553001.out⟩, ⟨kb_ BK546.out⟩, ⟨kb_ BK547.out⟩, ⟨kb_ BK552.out⟩, ⟨bw_ HB.out⟩⟩
    case round =>
     clear H'
     try clear c1
     try clear c2
     try clear p2
     try clear c4
     try clear c7
     try clear c11
     try clear c12
     try clear c15
     try clear c15b0
     try clear c15b1
     try clear c15b2
     try clear c16
     try clear c17
     try clear c19
     try clear c19b0
     try clear c20
     try clear c21
     try clear c23
     try clear c24
     try clear c26
     try clear c27
     try clear c28
     try clear hcz13_0 hcz13_1
     try clear hcz18_0 hcz18_1
     try clear hcz22_0 hcz22_1
     try clear hcz25_0 hcz25_1
     try clear hcz29_0 hcz29_1 hcz29_2
     try clear hcz8_0 hcz8_1
     try clear hfz13_0 hfz13_1
     try clear hfz18_0 hfz18_1
     try clear hfz22_0 hfz22_1
     try clear hfz25_0 hfz25_1
     try clear hfz29_0 hfz29_1 hfz29_2
     try clear hfz8_0 hfz8_1
     try clear p2
     obtain ⟨x1_2, x6_2, x553000_2, x553001_2, u553001, rfl, rfl, HA, HK2, HO_553001, BK546, BK547, BK552, HB⟩ := hrel
     cases gk with
     | zero => exact absurd HA.out (by simp [pelorusref03_Make.l0])
     | succ k2 =>
      have H := HA.out
      clear HA
      simp only [pelorusref03_Make.l0] at H
      by_cases c30 : x6_2 < 4000000
      ·rw [if_pos c30] at H
       have c30b0 : decide (x6_2 < 4000000) = true := decide_eq_true c30
       clear c30
       replace H := Option.bind_eq_some_iff.mp H
       obtain ⟨t553, A310, H⟩ := H
       (try dsimp only at H)
       have A31 := Aside0.mk A310
       clear A310
       by_cases c32 : t553 = true
       ·subst c32
        have H1 : ((pelorusref01_Shr.f k2 x553001_2 1).bind fun t554 => (pelorusref03_Make.l0 k2 (wrap64 (x1_2 + 1)) (wrap64 (x6_2 + 1)) x553000_2 t554)) = some (r1, r2, r3) := by rw [if_pos rfl] at H; exact H
        clear H
        have H := H1
        clear H1
        replace H := Option.bind_eq_some_iff.mp H
        obtain ⟨t554, A330, H⟩ := H
        (try dsimp only at H)
        have A33 := Aside0.mk A330
        clear A330
        have H' := Aside0.mk H
        clear H
        have hnb34 := NB552_546.out
        have hnc34 := NB546_552.out
        have hnb35 := NB552_547.out
        have hnc35 := NB547_552.out
        obtain ⟨hcz36_0, hcz36_1, hfz36_0, hfz36_1⟩ := c2_ BK552
        obtain ⟨Ao37, co37, eo37⟩ := Kd.R_slice HO_553001.out
        subst eo37
        try go_wp2_with (first | ((with_reducible refine gate_callee (f := 44) rfl ?_); refine gl_ (some 32) Tryd.func44 #[.slice Ao37 x553001_2.length co37] ?_; (with_reducible refine (pelorusref03_even.calls _ _ x553001_2 true _ ?side1 ?side2 A31.out).mono ?_); (case side1 => exact kc_ (Kd.R_reads' HO_553001.out).2.2); (case side2 => exact (Kd.R_reads' HO_553001.out).2.1); rintro e w' ⟨rfl, ⟨nd, rfl⟩⟩; refine ⟨_, rfl, ?_⟩; (try (rw [drewN_self wr]; generalize hq_ : World.drewN wr _ = wr; have n0_ : Aside0 (Kd.R (Kd.int .u32) 51 wr w.heap.size (fun _ => True) (.slice Ao37 x553001_2.length co37) x553001_2) := ⟨by rw [← hq_]; exact (kr_ HO_553001.out)⟩; have n1_ : Aside0 (wr.heap[gb546]? = some (.cells #[.bool a0_0, .slice A0_1 l0_1.length c0_1] 24 (0, 0))) := ⟨by rw [← hq_]; exact (kb_ BK546.out)⟩; have n2_ : Aside0 (wr.heap[gb547]? = some (.cells #[.bool false, .slice none 0 0, .int .i64 0] 27 (0, 0))) := ⟨by rw [← hq_]; exact (kb_ BK547.out)⟩; have n3_ : Aside0 (wr.heap[gb552]? = some (.cells #[.bool x553000_2, .slice Ao37 x553001_2.length co37] 24 (0, 0))) := ⟨by rw [← hq_]; exact (kb_ BK552.out)⟩; have n4_ : Aside0 (Below w.heap.size w wr) := ⟨by rw [← hq_]; exact (bw_ HB.out)⟩; clear HO_553001 BK546 BK547 BK552 HB hq_; have HO_553001 := n0_; have BK546 := n1_; have BK547 := n2_; have BK552 := n3_; have HB := n4_; clear n0_ n1_ n2_ n3_ n4_)); (try (obtain ⟨hcz36_0, hcz36_1, hfz36_0, hfz36_1⟩ := c2_ BK552))))
        replace HO_553001 := Aside0.mk (Kd.R_drew HO_553001.out)
        replace BK546 := Aside0.mk (blk_drew BK546.out)
        replace BK547 := Aside0.mk (blk_drew BK547.out)
        replace BK552 := Aside0.mk (blk_drew BK552.out)
        replace HB := Aside0.mk (below_drew1 HB.out)
        refine start_ (n := 7) (S := fun w' => w'.cell? ⟨gb552, 0, none⟩ = some (.bool x553000_2) ∧ w'.cell? ⟨gb552, 1, none⟩ = some (.slice Ao37 x553001_2.length co37)) (ds := [6]) #[false, false, false, false, false, false, false] (by kernel_rfl) rfl rfl ⟨(blk_cell BK552.out 0).trans rfl, (blk_cell BK552.out 1).trans rfl⟩ (fun hHeld => ?_)
        generalize wr.drew = w38 at HO_553001 BK546 BK547 BK552 HB hHeld ⊢
        refine pure_ (i := 0) (N := some 35) (v := ?_) (a' := ?_) #[true, false, false, false, false, false, false] rfl rfl (by kernel_rfl) (fun _ _ _ h => h) (Or.inl ⟨by rfl, ?_⟩) ?_ ?_
        rotate_left
        ·intro w'
         go_simp
         with_reducible rfl
        rotate_left
        ·exact pt_
        refine pure_ (i := 2) (N := some 37) (v := ?_) (a' := ?_) #[true, false, true, false, false, false, false] rfl rfl (by kernel_rfl) (fun _ _ _ h => h) (Or.inl ⟨by rfl, ?_⟩) ?_ ?_
        rotate_left
        ·intro w'
         go_simp
         with_reducible rfl
        rotate_left
        ·exact pt_
        refine take_ (i := 1) (N := some 36) (v := ?_) (a' := ?_) #[true, true, true, false, false, false, false] rfl rfl (by kernel_rfl) (fun _ _ _ h => h) (Or.inl ⟨by rfl, ?_⟩) hHeld ?_ ?_
        rotate_left
        ·rintro w' ⟨s0, s1⟩
         go_simp
         with_reducible rfl
        rotate_left
        ·exact pt_
        refine take_ (i := 3) (N := some 38) (v := ?_) (a' := ?_) #[true, true, true, true, false, false, false] rfl rfl (by kernel_rfl) (fun _ _ _ h => h) (Or.inl ⟨by rfl, ?_⟩) hHeld ?_ ?_
        rotate_left
        ·rintro w' ⟨s0, s1⟩
         go_simp
         with_reducible rfl
        rotate_left
        ·exact pt_
        refine one_ (i := 4) (N := some 39) #[true, true, true, true, true, false, false] rfl rfl (by kernel_rfl) (by decide) (fun K hK => ?_)
        refine gs_ Tryd.func45 #[.slice Ao37 x553001_2.length co37, .int .i64 1] ?_
        with_reducible refine (pelorusref01_Shr.calls k2 _ _ x553001_2 1 t554 _ ?side1 ?side2 A33.out).mono ?_
        (case side1 => exact kc_ (Kd.R_reads' HO_553001.out).2.2)
        (case side2 => exact (Kd.R_reads' HO_553001.out).2.1)
        rintro e w39 ⟨v555, rfl, ho0, hb⟩
        refine ⟨_, rfl, ?_⟩
        have HO556 := Aside0.mk (Kd.R_lower (Kd.R_new' ho0 (Kd.R_lt (kr_ HO_553001.out))) (below_size (bw_ HB.out)))
        replace HO_553001 := Aside0.mk (Kd.R_elder' (kr_ HO_553001.out) (Kd.R_base ho0) hb)
        replace BK546 := kq_ BK546 hb
        replace BK547 := kq_ BK547 hb
        replace BK552 := kq_ BK552 hb
        replace HB := bq_ HB hb
        (try clear hb)
        (try clear hb2)
        (try clear hk)
        (try clear hi)
        (try clear ho0)
        obtain ⟨Ao40, co40, eo40⟩ := Kd.R_slice HO556.out
        (first | subst eo40 | (injection eo40 with f1_ f2_ f3_; have f4_ := f1_.symm; have f5_ := f3_.symm; clear f1_ f2_ f3_; subst f4_; subst f5_))
        refine hK.out _ _ ⟨(blk_cell BK552.out 0).trans rfl, (blk_cell BK552.out 1).trans rfl⟩ (fun hHeld => ?_)
        clear hK K
        refine norm_ (a' := ?_) ?_ ?_
        rotate_left
        ·show Act.put _ (some 39) _ = _
         exact pt_
        refine pure_ (i := 5) (N := some 40) (v := ?_) (a' := ?_) #[true, true, true, true, true, true, false] rfl rfl (by kernel_rfl) (fun _ _ _ h => h) (Or.inl ⟨by rfl, ?_⟩) ?_ ?_
        rotate_left
        ·intro w'
         go_simp
         with_reducible rfl
        rotate_left
        ·exact pt_
        refine last_ (i := 6) (N := none) #[true, true, true, true, true, true, true] rfl rfl (by kernel_rfl) (by decide) (fun K hK => ?_)
        have hs41 : w39.cell? ⟨gb552, 0, none⟩ = some (.bool x553000_2) := (blk_cell BK552.out 0).trans rfl
        have hfs41 := fz_ BK552 0
        have hns41_0 := NB546_552.out
        have hns41_1 := NB547_552.out
        have hms41_0 := NB552_546.out
        have hms41_1 := NB552_547.out
        have hs42 : w39.cell? ⟨gb552, 1, none⟩ = some (.slice Ao37 x553001_2.length co37) := (blk_cell BK552.out 1).trans rfl
        have hfs42 := fz_ BK552 1
        have hns42_0 := NB546_552.out
        have hns42_1 := NB547_552.out
        have hms42_0 := NB552_546.out
        have hms42_1 := NB552_547.out
        refine skip_ (w1 := ?_) (by rfl) rfl ?_ ?_
        rotate_left
        ·go_simp
         rfl
        refine hK.out _ _ ?_
        clear hK K
        refine done_ (by kernel_rfl) ?_
        try go_wp2
        go_roundg k2
        case measure => have := HJ3.out; have := HK2.out; omega
        case rel => exact ⟨(wrap64 (x1_2 + 1)), (wrap64 (x6_2 + 1)), (x553000_2), (t554), (.slice Ao40 t554.length co40), (by first | rfl | (simp; done) | (simp [*]; done)), (by first | rfl | (simp; done) | (simp [*]; done)), H', ⟨by have := HJ3.out; have := HK2.out; omega⟩, ⟨by (with_reducible repeat (first | apply Kd.R_alloc | apply Kd.R_drewN | apply Kd.R_drew)); exact Kd.R_mono (Kd.R_far (p := ⟨gb552, 1, none⟩) (Kd.R_far (p := ⟨gb552, 0, none⟩) (Kd.R_types HO556.out BK552.out (by decide)) (fun _ hk => hk.2) (.bool x553000_2)) (fun _ hk => hk.2) (.slice Ao40 t554.length co40)) (fun _ hk => trivial)⟩, ⟨by refine kb_ ?_; refine bf_ NB546_552 ?_; refine bf_ NB546_552 ?_; exact BK546.out⟩, ⟨by refine kb_ ?_; refine bf_ NB547_552 ?_; refine bf_ NB547_552 ?_; exact BK547.out⟩, ⟨by refine kb_ ?_; refine bp_ #[.bool x553000_2, .slice Ao37 x553001_2.length co37] 1 ?_; refine bp_ #[.bool x553000_2, .slice Ao37 x553001_2.length co37] 0 ?_; exact BK552.out⟩, ⟨bw_ HB.out⟩⟩
       ·replace c32 := Bool.eq_false_iff.mpr c32
        subst c32
        have H1 : (if x1_2 > 4194304 then (some (false, ([] : List Int), 0)) else (some (x553000_2, x553001_2, x1_2))) = some (r1, r2, r3) := by rw [if_neg (show ¬ (false = true) by decide)] at H; exact H
        clear H
        have H := H1
        clear H1
        by_cases c43 : x1_2 > 4194304
        ·rw [if_pos c43] at H
         have c43b0 : decide (4194304 < x1_2) = true := decide_eq_true c43
         clear c43
         simp only [Option.some.injEq, Prod.mk.injEq] at H
         obtain ⟨rfl, rfl, rfl⟩ := H
         have hnb44 := NB552_546.out
         have hnc44 := NB546_552.out
         have hnb45 := NB552_547.out
         have hnc45 := NB547_552.out
         obtain ⟨hcz46_0, hcz46_1, hfz46_0, hfz46_1⟩ := c2_ BK552
         obtain ⟨Ao47, co47, eo47⟩ := Kd.R_slice HO_553001.out
         subst eo47
         go_wp2_with (first | ((with_reducible refine gate_callee (f := 44) rfl ?_); refine gl_ (some 32) Tryd.func44 #[.slice Ao47 x553001_2.length co47] ?_; (with_reducible refine (pelorusref03_even.calls _ _ x553001_2 false _ ?side1 ?side2 A31.out).mono ?_); (case side1 => exact kc_ (Kd.R_reads' HO_553001.out).2.2); (case side2 => exact (Kd.R_reads' HO_553001.out).2.1); rintro e w' ⟨rfl, ⟨nd, rfl⟩⟩; refine ⟨_, rfl, ?_⟩; (try (rw [drewN_self wr]; generalize hq_ : World.drewN wr _ = wr; have n0_ : Aside0 (Kd.R (Kd.int .u32) 51 wr w.heap.size (fun _ => True) (.slice Ao47 x553001_2.length co47) x553001_2) := ⟨by rw [← hq_]; exact (kr_ HO_553001.out)⟩; have n1_ : Aside0 (wr.heap[gb546]? = some (.cells #[.bool a0_0, .slice A0_1 l0_1.length c0_1] 24 (0, 0))) := ⟨by rw [← hq_]; exact (kb_ BK546.out)⟩; have n2_ : Aside0 (wr.heap[gb547]? = some (.cells #[.bool false, .slice none 0 0, .int .i64 0] 27 (0, 0))) := ⟨by rw [← hq_]; exact (kb_ BK547.out)⟩; have n3_ : Aside0 (wr.heap[gb552]? = some (.cells #[.bool x553000_2, .slice Ao47 x553001_2.length co47] 24 (0, 0))) := ⟨by rw [← hq_]; exact (kb_ BK552.out)⟩; have n4_ : Aside0 (Below w.heap.size w wr) := ⟨by rw [← hq_]; exact (bw_ HB.out)⟩; clear HO_553001 BK546 BK547 BK552 HB hq_; have HO_553001 := n0_; have BK546 := n1_; have BK547 := n2_; have BK552 := n3_; have HB := n4_; clear n0_ n1_ n2_ n3_ n4_)); (try (obtain ⟨hcz46_0, hcz46_1, hfz46_0, hfz46_1⟩ := c2_ BK552)); have hnb48 := NB547_546.out; have hnc48 := NB546_547.out; obtain ⟨hcz49_0, hcz49_1, hcz49_2, hfz49_0, hfz49_1, hfz49_2⟩ := c3_ BK547))
         refine bodyPost_ret (results_cell_row rfl _ _ gb547 27 #[.bool false, .slice none 0 0, .int .i64 0] (0, 0) _ rfl (by refine kb_ ?_; refine bp_ #[.bool false, .slice none 0 0, .int .i64 0] 2 ?_; refine bp_ #[.bool false, .slice none 0 0, .int .i64 0] 1 ?_; refine bp_ #[.bool false, .slice none 0 0, .int .i64 0] 0 ?_; exact BK547.out) Tryd.underlying27 rfl (by kernel_rfl)) rfl ?_
         exact ⟨_, rf_, by first | exact Kd.R_nil _ _ _ _ _ | exact Kd.N_nil _ _ _ _ _ | exact Kd.V_nil _ _ _ _ _ | exact Kd.Q_nil _ _ _ _ _ | exact Kd.S_nil _ _ _ _ _, bw_ HB.out⟩
        ·rw [if_neg c43] at H
         have c43b0 : decide (4194304 < x1_2) = false := decide_eq_false c43
         clear c43
         simp only [Option.some.injEq, Prod.mk.injEq] at H
         obtain ⟨rfl, rfl, rfl⟩ := H
         have hnb50 := NB552_546.out
         have hnc50 := NB546_552.out
         have hnb51 := NB552_547.out
         have hnc51 := NB547_552.out
         obtain ⟨hcz52_0, hcz52_1, hfz52_0, hfz52_1⟩ := c2_ BK552
         obtain ⟨Ao53, co53, eo53⟩ := Kd.R_slice HO_553001.out
         subst eo53
         go_wp2_with (first | ((with_reducible refine gate_callee (f := 44) rfl ?_); refine gl_ (some 32) Tryd.func44 #[.slice Ao53 x553001_2.length co53] ?_; (with_reducible refine (pelorusref03_even.calls _ _ x553001_2 false _ ?side1 ?side2 A31.out).mono ?_); (case side1 => exact kc_ (Kd.R_reads' HO_553001.out).2.2); (case side2 => exact (Kd.R_reads' HO_553001.out).2.1); rintro e w' ⟨rfl, ⟨nd, rfl⟩⟩; refine ⟨_, rfl, ?_⟩; (try (rw [drewN_self wr]; generalize hq_ : World.drewN wr _ = wr; have n0_ : Aside0 (Kd.R (Kd.int .u32) 51 wr w.heap.size (fun _ => True) (.slice Ao53 x553001_2.length co53) x553001_2) := ⟨by rw [← hq_]; exact (kr_ HO_553001.out)⟩; have n1_ : Aside0 (wr.heap[gb546]? = some (.cells #[.bool a0_0, .slice A0_1 l0_1.length c0_1] 24 (0, 0))) := ⟨by rw [← hq_]; exact (kb_ BK546.out)⟩; have n2_ : Aside0 (wr.heap[gb547]? = some (.cells #[.bool false, .slice none 0 0, .int .i64 0] 27 (0, 0))) := ⟨by rw [← hq_]; exact (kb_ BK547.out)⟩; have n3_ : Aside0 (wr.heap[gb552]? = some (.cells #[.bool x553000_2, .slice Ao53 x553001_2.length co53] 24 (0, 0))) := ⟨by rw [← hq_]; exact (kb_ BK552.out)⟩; have n4_ : Aside0 (Below w.heap.size w wr) := ⟨by rw [← hq_]; exact (bw_ HB.out)⟩; clear HO_553001 BK546 BK547 BK552 HB hq_; have HO_553001 := n0_; have BK546 := n1_; have BK547 := n2_; have BK552 := n3_; have HB := n4_; clear n0_ n1_ n2_ n3_ n4_)); (try (obtain ⟨hcz52_0, hcz52_1, hfz52_0, hfz52_1⟩ := c2_ BK552)); have hnb54 := NB547_546.out; have hnc54 := NB546_547.out; obtain ⟨hcz55_0, hcz55_1, hcz55_2, hfz55_0, hfz55_1, hfz55_2⟩ := c3_ BK547))
         refine bodyPost_ret (results_cell_row rfl _ _ gb547 27 #[.bool x553000_2, .slice Ao53 x553001_2.length co53, .int .i64 x1_2] (0, 0) _ rfl (by refine kb_ ?_; refine bp_ #[.bool x553000_2, .slice Ao53 x553001_2.length co53, .int .i64 0] 2 ?_; refine bp_ #[.bool x553000_2, .slice none 0 0, .int .i64 0] 1 ?_; refine bp_ #[.bool false, .slice none 0 0, .int .i64 0] 0 ?_; exact BK547.out) Tryd.underlying27 rfl (by kernel_rfl)) rfl ?_
         exact ⟨_, rf_, by (with_reducible repeat (first | apply Kd.R_alloc | apply Kd.R_drewN | apply Kd.R_drew)); exact Kd.R_mono (Kd.R_far (p := ⟨gb547, 2, none⟩) (Kd.R_far (p := ⟨gb547, 1, none⟩) (Kd.R_far (p := ⟨gb547, 0, none⟩) (Kd.R_types HO_553001.out BK547.out (by decide)) (fun _ hk => hk.2) (.bool x553000_2)) (fun _ hk => hk.2) (.slice Ao53 x553001_2.length co53)) (fun _ hk => hk.2) (.int .i64 x1_2)) (fun _ hk => trivial), bw_ HB.out⟩
      ·rw [if_neg c30] at H
       have c30b0 : decide (x6_2 < 4000000) = false := decide_eq_false c30
       clear c30
       by_cases c56 : x1_2 > 4194304
       ·rw [if_pos c56] at H
        have c56b0 : decide (4194304 < x1_2) = true := decide_eq_true c56
        clear c56
        simp only [Option.some.injEq, Prod.mk.injEq] at H
        obtain ⟨rfl, rfl, rfl⟩ := H
        have hnb57 := NB547_546.out
        have hnc57 := NB546_547.out
        have hnb58 := NB547_552.out
        have hnc58 := NB552_547.out
        obtain ⟨hcz59_0, hcz59_1, hcz59_2, hfz59_0, hfz59_1, hfz59_2⟩ := c3_ BK547
        go_wp2
        refine bodyPost_ret (results_cell_row rfl _ _ gb547 27 #[.bool false, .slice none 0 0, .int .i64 0] (0, 0) _ rfl (by refine kb_ ?_; refine bp_ #[.bool false, .slice none 0 0, .int .i64 0] 2 ?_; refine bp_ #[.bool false, .slice none 0 0, .int .i64 0] 1 ?_; refine bp_ #[.bool false, .slice none 0 0, .int .i64 0] 0 ?_; exact BK547.out) Tryd.underlying27 rfl (by kernel_rfl)) rfl ?_
        exact ⟨_, rf_, by first | exact Kd.R_nil _ _ _ _ _ | exact Kd.N_nil _ _ _ _ _ | exact Kd.V_nil _ _ _ _ _ | exact Kd.Q_nil _ _ _ _ _ | exact Kd.S_nil _ _ _ _ _, bw_ HB.out⟩
       ·rw [if_neg c56] at H
        have c56b0 : decide (4194304 < x1_2) = false := decide_eq_false c56
        clear c56
        simp only [Option.some.injEq, Prod.mk.injEq] at H
        obtain ⟨rfl, rfl, rfl⟩ := H
        have hnb60 := NB552_546.out
        have hnc60 := NB546_552.out
        have hnb61 := NB552_547.out
        have hnc61 := NB547_552.out
        obtain ⟨hcz62_0, hcz62_1, hfz62_0, hfz62_1⟩ := c2_ BK552
        obtain ⟨Ao63, co63, eo63⟩ := Kd.R_slice HO_553001.out
        subst eo63
        have hnb64 := NB547_546.out
        have hnc64 := NB546_547.out
        obtain ⟨hcz65_0, hcz65_1, hcz65_2, hfz65_0, hfz65_1, hfz65_2⟩ := c3_ BK547
        go_wp2
        refine bodyPost_ret (results_cell_row rfl _ _ gb547 27 #[.bool x553000_2, .slice Ao63 x553001_2.length co63, .int .i64 x1_2] (0, 0) _ rfl (by refine kb_ ?_; refine bp_ #[.bool x553000_2, .slice Ao63 x553001_2.length co63, .int .i64 0] 2 ?_; refine bp_ #[.bool x553000_2, .slice none 0 0, .int .i64 0] 1 ?_; refine bp_ #[.bool false, .slice none 0 0, .int .i64 0] 0 ?_; exact BK547.out) Tryd.underlying27 rfl (by kernel_rfl)) rfl ?_
        exact ⟨_, rf_, by (with_reducible repeat (first | apply Kd.R_alloc | apply Kd.R_drewN | apply Kd.R_drew)); exact Kd.R_mono (Kd.R_far (p := ⟨gb547, 2, none⟩) (Kd.R_far (p := ⟨gb547, 1, none⟩) (Kd.R_far (p := ⟨gb547, 0, none⟩) (Kd.R_types HO_553001.out BK547.out (by decide)) (fun _ hk => hk.2) (.bool x553000_2)) (fun _ hk => hk.2) (.slice Ao63 x553001_2.length co63)) (fun _ hk => hk.2) (.int .i64 x1_2)) (fun _ hk => trivial), bw_ HB.out⟩

/-! ### pelorusref02_Sign: function 49 -/
set_option maxHeartbeats 8000000 in
set_option maxRecDepth 100000 in
theorem pelorusref02_Sign.calls (k : Nat) (a0_0 : Bool) (A0_1 : Option Addr) (c0_1 : Nat) (l0_1 : List Int) (r : Int) (w : World) (hr0_1 : Kd.C (Kd.int .u32) w A0_1 l0_1.length l0_1) (hc0_1 : l0_1.length ≤ c0_1) (h : pelorusref02_Sign.f k a0_0 l0_1 = some r) :
  Calls Tryd.prog 49 #[.agg #[.bool a0_0, .slice A0_1 l0_1.length c0_1]] w fun e w' => e = .returned (.int .i64 r) ∧ Below w.heap.size w w' := by
 have hu24 := Tryd.underlying24
 have HR0_1 := Aside0.mk hr0_1
 have HC0_1 := Aside0.mk hc0_1
 clear hr0_1 hc0_1
 have HB := Aside0.mk (Below.refl w.heap.size w)
 have H : ((pelorusref02_Make.f k a0_0 l0_1).bind fun bt595 => (if (bt595.2.length : Int) = 0 then (some 0) else (if bt595.1 = true then (some (-1)) else (some 1)))) = some r := h
 clear h
 replace H := Option.bind_eq_some_iff.mp H
 obtain ⟨⟨t595, t596⟩, A20, H⟩ := H
 (try dsimp only at H)
 have A2 := Aside0.mk A20
 clear A20
 by_cases c3 : (t596.length : Int) = 0
 ·rw [if_pos c3] at H
  have c3b0 : ((t596.length : Int) == 0) = true := beq_iff_eq.mpr c3
  have c3b1 : ((t596.length : Int) != 0) = false := bne_eq_false_iff_eq.mpr c3
  clear c3
  obtain rfl := Option.some.inj H
  go_enter Tryd.func49, Tryd.ntmps49
  go_wp2_with (first | ((with_reducible refine gate_dst (N := 1) rfl ?_); refine bx_ 1 #[.bool a0_0, .slice A0_1 l0_1.length c0_1] 24 ?_; intro gb594 hg w4 hbox hb; have BK594 := Aside0.mk (hbox); have GW594 := ge_ hg HB; have GE594 := ge_ hg HB; replace HB := bq_ HB hb; clear hb hbox hg; obtain ⟨hcz5_0, hcz5_1, hfz5_0, hfz5_1⟩ := c2_ BK594) | ((with_reducible refine gate_callee (f := 43) rfl ?_); refine gl_ (some 8) Tryd.func43 #[.bool a0_0, .slice A0_1 l0_1.length c0_1] ?_; (with_reducible refine (pelorusref02_Make.calls k a0_0 _ _ l0_1 t595 t596 _ ?side1 ?side2 A2.out).mono ?_); (case side1 => exact kc_ (Kd.C_below HR0_1.out HB.out)); (case side2 => exact HC0_1.out); rintro e w6 ⟨v597, rfl, ho0, hb⟩; refine ⟨_, rfl, ?_⟩; have HO598 := Aside0.mk (Kd.R_lower ho0 (below_size (bw_ HB.out))); replace BK594 := kq_ BK594 hb; replace HB := bq_ HB hb; (try clear hb); (try clear hb2); (try clear hk); (try clear hi); (try clear ho0)) | ((with_reducible refine gate_dst (N := 3) rfl ?_); refine bx_ 3 #[.bool false, .slice none 0 0] 24 ?_; intro gb599 hg w7 hbox hb; have BK599 := Aside0.mk (hbox); have GW599 := ge_ hg HB; have GE599 := ge_ hg HB; have NB594_599 := nb_ hg BK594; have NB599_594 := nc_ hg BK594; replace HO598 := Aside0.mk (Kd.R_below (kr_ HO598.out) hb); replace BK594 := kq_ BK594 hb; replace HB := bq_ HB hb; clear hb hbox hg; have hnb8 := NB599_594.out; have hnc8 := NB594_599.out; obtain ⟨hcz9_0, hcz9_1, hfz9_0, hfz9_1⟩ := c2_ BK599; obtain ⟨Ao10, co10, eo10⟩ := Kd.R_slice HO598.out; subst eo10))
  go_ret
  exact ⟨rf_, bw_ HB.out⟩
 ·rw [if_neg c3] at H
  have c3b0 : ((t596.length : Int) == 0) = false := beq_eq_false_iff_ne.mpr c3
  have c3b1 : ((t596.length : Int) != 0) = true := bne_iff_ne.mpr c3
  have c3b2 : ¬ (t596 = []) := fun h_ => c3 (by rw [h_]; rfl)
  by_cases c11 : t595 = true
  ·subst c11
   have H1 : (some (-1)) = some r := by rw [if_pos rfl] at H; exact H
   clear H
   have H := H1
   clear H1
   obtain rfl := Option.some.inj H
   go_enter Tryd.func49, Tryd.ntmps49
   go_wp2_with (first | ((with_reducible refine gate_dst (N := 1) rfl ?_); refine bx_ 1 #[.bool a0_0, .slice A0_1 l0_1.length c0_1] 24 ?_; intro gb594 hg w12 hbox hb; have BK594 := Aside0.mk (hbox); have GW594 := ge_ hg HB; have GE594 := ge_ hg HB; replace HB := bq_ HB hb; clear hb hbox hg; obtain ⟨hcz13_0, hcz13_1, hfz13_0, hfz13_1⟩ := c2_ BK594) | ((with_reducible refine gate_callee (f := 43) rfl ?_); refine gl_ (some 8) Tryd.func43 #[.bool a0_0, .slice A0_1 l0_1.length c0_1] ?_; (with_reducible refine (pelorusref02_Make.calls k a0_0 _ _ l0_1 true t596 _ ?side1 ?side2 A2.out).mono ?_); (case side1 => exact kc_ (Kd.C_below HR0_1.out HB.out)); (case side2 => exact HC0_1.out); rintro e w14 ⟨v597, rfl, ho0, hb⟩; refine ⟨_, rfl, ?_⟩; have HO598 := Aside0.mk (Kd.R_lower ho0 (below_size (bw_ HB.out))); replace BK594 := kq_ BK594 hb; replace HB := bq_ HB hb; (try clear hb); (try clear hb2); (try clear hk); (try clear hi); (try clear ho0)) | ((with_reducible refine gate_dst (N := 3) rfl ?_); refine bx_ 3 #[.bool false, .slice none 0 0] 24 ?_; intro gb599 hg w15 hbox hb; have BK599 := Aside0.mk (hbox); have GW599 := ge_ hg HB; have GE599 := ge_ hg HB; have NB594_599 := nb_ hg BK594; have NB599_594 := nc_ hg BK594; replace HO598 := Aside0.mk (Kd.R_below (kr_ HO598.out) hb); replace BK594 := kq_ BK594 hb; replace HB := bq_ HB hb; clear hb hbox hg; have hnb16 := NB599_594.out; have hnc16 := NB594_599.out; obtain ⟨hcz17_0, hcz17_1, hfz17_0, hfz17_1⟩ := c2_ BK599; obtain ⟨Ao18, co18, eo18⟩ := Kd.R_slice HO598.out; subst eo18))
   go_ret
   exact ⟨rf_, bw_ HB.out⟩
  ·replace c11 := Bool.eq_false_iff.mpr c11
   subst c11
   have H1 : (some 1) = some r := by rw [if_neg (show ¬ (false = true) by decide)] at H; exact H
   clear H
   have H := H1
   clear H1
   obtain rfl := Option.some.inj H
   go_enter Tryd.func49, Tryd.ntmps49
   go_wp2_with (first | ((with_reducible refine gate_dst (N := 1) rfl ?_); refine bx_ 1 #[.bool a0_0, .slice A0_1 l0_1.length c0_1] 24 ?_; intro gb594 hg w19 hbox hb; have BK594 := Aside0.mk (hbox); have GW594 := ge_ hg HB; have GE594 := ge_ hg HB; replace HB := bq_ HB hb; clear hb hbox hg; obtain ⟨hcz20_0, hcz20_1, hfz20_0, hfz20_1⟩ := c2_ BK594) | ((with_reducible refine gate_callee (f := 43) rfl ?_); refine gl_ (some 8) Tryd.func43 #[.bool a0_0, .slice A0_1 l0_1.length c0_1] ?_; (with_reducible refine (pelorusref02_Make.calls k a0_0 _ _ l0_1 false t596 _ ?side1 ?side2 A2.out).mono ?_); (case side1 => exact kc_ (Kd.C_below HR0_1.out HB.out)); (case side2 => exact HC0_1.out); rintro e w21 ⟨v597, rfl, ho0, hb⟩; refine ⟨_, rfl, ?_⟩; have HO598 := Aside0.mk (Kd.R_lower ho0 (below_size (bw_ HB.out))); replace BK594 := kq_ BK594 hb; replace HB := bq_ HB hb; (try clear hb); (try clear hb2); (try clear hk); (try clear hi); (try clear ho0)) | ((with_reducible refine gate_dst (N := 3) rfl ?_); refine bx_ 3 #[.bool false, .slice none 0 0] 24 ?_; intro gb599 hg w22 hbox hb; have BK599 := Aside0.mk (hbox); have GW599 := ge_ hg HB; have GE599 := ge_ hg HB; have NB594_599 := nb_ hg BK594; have NB599_594 := nc_ hg BK594; replace HO598 := Aside0.mk (Kd.R_below (kr_ HO598.out) hb); replace BK594 := kq_ BK594 hb; replace HB := bq_ HB hb; clear hb hbox hg; have hnb23 := NB599_594.out; have hnc23 := NB594_599.out; obtain ⟨hcz24_0, hcz24_1, hfz24_0, hfz24_1⟩ := c2_ BK599; obtain ⟨Ao25, co25, eo25⟩ := Kd.R_slice HO598.out; subst eo25))
   go_ret
   exact ⟨rf_, bw_ HB.out⟩

end Go.Proofs.YtaookeneeemfbaaDoor.PA
