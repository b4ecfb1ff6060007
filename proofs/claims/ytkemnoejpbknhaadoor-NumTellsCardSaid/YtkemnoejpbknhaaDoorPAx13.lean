-- Laid by this work's own program; Lean checks it.
import Derived.Test.YtkemnoejpbknhaaDoorPAx0
import Derived.Test.YtkemnoejpbknhaaDoorPAx2
import Derived.Test.YtkemnoejpbknhaaDoorPAx12
namespace Go.Proofs.YtkemnoejpbknhaaDoor.PA
open Go.RowKit Go.Proofs.YtkemnoejpbknhaaDoorW.PrintWords Go.Proofs.YtkemnoejpbknhaaDoorW.PrintLast Go.Proofs.YtkemnoejpbknhaaDoorW.PrintMore
attribute [local go_sem] max2_int min2_int max_two min_two max_three min_three max_four min_four   -- for this text's walks alone
set_option linter.unusedVariables false
set_option linter.unusedSimpArgs false

attribute [local go_sem ↓ high] isSome_set_
/-! ### pelorusref01_Div: function 72 -/
set_option maxHeartbeats 8000000 in
set_option maxRecDepth 100000 in
theorem pelorusref01_Div.calls (k : Nat) (A0 : Option Addr) (c0 : Nat) (l0 : List Int) (A1 : Option Addr) (c1 : Nat) (l1 : List Int) (r1 : List Int) (r2 : List Int) (r3 : Bool) (w : World) (hr0 : Kd.C (Kd.int .u32) w A0 l0.length l0) (hc0 : l0.length ≤ c0) (hr1 : Kd.C (Kd.int .u32) w A1 l1.length l1) (hc1 : l1.length ≤ c1) (h : pelorusref01_Div.f k l0 l1 = some (r1, r2, r3)) :
  Calls Tryd.prog 72 #[.slice A0 l0.length c0, .slice A1 l1.length c1] w fun e w' => ∃ v0_ v1_ : Value, e = .returned (.tuple #[v0_, v1_, .bool r3]) ∧ Kd.R (Kd.int .u32) 53 w' w.heap.size (fun k_ => some k_ ≠ (v1_ : Value).ownBlock) v0_ r1 ∧ Kd.R (Kd.int .u32) 53 w' w.heap.size (fun k_ => some k_ ≠ (v0_ : Value).ownBlock) v1_ r2 ∧ Below w.heap.size w w' := by
 have HR0 := Aside0.mk hr0
 have HC0 := Aside0.mk hc0
 clear hr0 hc0
 have HR1 := Aside0.mk hr1
 have HC1 := Aside0.mk hc1
 clear hr1 hc1
 have HB := Aside0.mk (Below.refl w.heap.size w)
 have H : ((pelorusref01_Trim.f k l1).bind fun t329 => (if (t329.length : Int) = 0 then (some (([] : List Int), ([] : List Int), false)) else ((pelorusref01_Len.f k l0).bind fun t332 => (pelorusref01_Div.l0 k l0 t329 ([] : List Int) ([] : List Int) (wrap64 (t332 - 1)))))) = some (r1, r2, r3) := h
 clear h
 replace H := Option.bind_eq_some_iff.mp H
 obtain ⟨t329, A30, H⟩ := H
 (try dsimp only at H)
 have A3 := Aside0.mk A30
 clear A30
 by_cases c4 : (t329.length : Int) = 0
 ·rw [if_pos c4] at H
  have c4b0 : ((t329.length : Int) == 0) = true := beq_iff_eq.mpr c4
  have c4b1 : ((t329.length : Int) != 0) = false := bne_eq_false_iff_eq.mpr c4
  clear c4
  simp only [Option.some.injEq, Prod.mk.injEq] at H
  obtain ⟨rfl, rfl, rfl⟩ := H
  go_enter Tryd.func72, Tryd.ntmps72
  go_wp2_with (first | ((with_reducible refine gate_callee (f := 70) rfl ?_); refine gl_ (some 15) Tryd.func70 #[.slice A1 l1.length c1] ?_; (with_reducible refine (pelorusref01_Trim.calls k _ _ l1 t329 _ ?side1 ?side2 A3.out).mono ?_); (case side1 => exact kc_ HR1.out); (case side2 => exact HC1.out); rintro e w5 ⟨v330, rfl, ho0, hb⟩; refine ⟨_, rfl, ?_⟩; have HO331 := Aside0.mk (Kd.R_lower ho0 (below_size (bw_ HB.out))); replace HB := bq_ HB hb; (try clear hb); (try clear hb2); (try clear hk); (try clear hi); (try clear ho0); obtain ⟨Ao6, co6, eo6⟩ := Kd.R_slice HO331.out; subst eo6))
  go_ret3
  exact ⟨_, _, rf_, by first | exact Kd.R_nil _ _ _ _ _ | exact Kd.N_nil _ _ _ _ _ | exact Kd.V_nil _ _ _ _ _ | exact Kd.Q_nil _ _ _ _ _ | exact Kd.S_nil _ _ _ _ _, by first | exact Kd.R_nil _ _ _ _ _ | exact Kd.N_nil _ _ _ _ _ | exact Kd.V_nil _ _ _ _ _ | exact Kd.Q_nil _ _ _ _ _ | exact Kd.S_nil _ _ _ _ _, bw_ HB.out⟩
 ·rw [if_neg c4] at H
  have c4b0 : ((t329.length : Int) == 0) = false := beq_eq_false_iff_ne.mpr c4
  have c4b1 : ((t329.length : Int) != 0) = true := bne_iff_ne.mpr c4
  have c4b2 : ¬ (t329 = []) := fun h_ => c4 (by rw [h_]; rfl)
  replace H := Option.bind_eq_some_iff.mp H
  obtain ⟨t332, A70, H⟩ := H
  (try dsimp only at H)
  have A7 := Aside0.mk A70
  clear A70
  have H' := Aside0.mk H
  clear H
  go_enter Tryd.func72, Tryd.ntmps72
  go_wp2_with (first | ((with_reducible refine gate_callee (f := 70) rfl ?_); refine gl_ (some 15) Tryd.func70 #[.slice A1 l1.length c1] ?_; (with_reducible refine (pelorusref01_Trim.calls k _ _ l1 t329 _ ?side1 ?side2 A3.out).mono ?_); (case side1 => exact kc_ HR1.out); (case side2 => exact HC1.out); rintro e w8 ⟨v330, rfl, ho0, hb⟩; refine ⟨_, rfl, ?_⟩; have HO331 := Aside0.mk (Kd.R_lower ho0 (below_size (bw_ HB.out))); replace HB := bq_ HB hb; (try clear hb); (try clear hb2); (try clear hk); (try clear hi); (try clear ho0); obtain ⟨Ao9, co9, eo9⟩ := Kd.R_slice HO331.out; subst eo9) | ((with_reducible refine gate_callee (f := 45) rfl ?_); refine gl_ (some 20) Tryd.func45 #[.slice A0 l0.length c0] ?_; (with_reducible refine (pelorusref01_Len.calls k _ _ l0 t332 _ ?side1 ?side2 A7.out).mono ?_); (case side1 => exact kc_ (Kd.C_below HR0.out HB.out)); (case side2 => exact HC0.out); rintro e w10 ⟨rfl, hb⟩; refine ⟨_, rfl, ?_⟩; replace HO331 := Aside0.mk (Kd.R_below (kr_ HO331.out) hb); replace HB := bq_ HB hb; (try clear hb); (try clear hb2); (try clear hk); (try clear hi)))
  go_loopg [8, 9, 10] k (fun kq v8 v9 v10 w' => ∃ (x8_1 : List Int) (x9_1 : List Int) (x10_1 : Int), v10 = .int .i64 x10_1 ∧ Aside0 (pelorusref01_Div.l0 kq l0 t329 x8_1 x9_1 x10_1 = some (r1, r2, r3)) ∧ Aside0 (kq ≤ k) ∧ Aside0 (Kd.R (Kd.int .u32) 53 w' w.heap.size (fun k_ => some k_ ≠ (v8 : Value).ownBlock ∧ some k_ ≠ (v9 : Value).ownBlock) (.slice Ao9 t329.length co9) t329) ∧ Aside0 (Kd.R (Kd.int .u32) 53 w' w.heap.size (fun k_ => some k_ ≠ ((.slice Ao9 t329.length co9) : Value).ownBlock ∧ some k_ ≠ (v9 : Value).ownBlock) v8 x8_1) ∧ Aside0 (Kd.R (Kd.int .u32) 53 w' w.heap.size (fun k_ => some k_ ≠ ((.slice Ao9 t329.length co9) : Value).ownBlock ∧ some k_ ≠ (v8 : Value).ownBlock) v9 x9_1) ∧ Aside0 (Below w.heap.size w w'))
  case atStart => exact ⟨(([] : List Int)), (([] : List Int)), (wrap64 (t332 - 1)), (by first | rfl | (simp; done) | (simp [*]; done)), H', ⟨Nat.le_refl _⟩, ⟨by (with_reducible repeat (first | apply Kd.R_alloc | apply Kd.R_drewN | apply Kd.R_drew)); exact Kd.R_mono HO331.out (fun _ hk => ⟨(by simp [Value.ownBlock]), (by simp [Value.ownBlock])⟩)⟩, ⟨by first | exact Kd.R_nil _ _ _ _ _ | exact Kd.N_nil _ _ _ _ _ | exact Kd.V_nil _ _ _ _ _ | exact Kd.Q_nil _ _ _ _ _ | exact Kd.S_nil _ _ _ _ _⟩, ⟨by first | exact Kd.R_nil _ _ _ _ _ | exact Kd.N_nil _ _ _ _ _ | exact Kd.V_nil _ _ _ _ _ | exact Kd.Q_nil _ _ _ _ _ | exact Kd.S_nil _ _ _ _ _⟩, ⟨bw_ HB.out⟩⟩
  case round =>
   clear H'
   try clear c1
   try clear p2
   try clear c4
   try clear c4b0
   try clear c4b1
   try clear c4b2
   try clear p6
   try clear c7
   obtain ⟨x8_1, x9_1, x10_1, rfl, HA, HK1, HO_7, HO_8, HO_9, HB⟩ := hrel
   cases gk with
   | zero => exact absurd HA.out (by simp [pelorusref01_Div.l0])
   | succ k1 =>
    have H := HA.out
    clear HA
    simp only [pelorusref01_Div.l0] at H
    by_cases c11 : x10_1 ≥ 0
    ·rw [if_pos c11] at H
     have c11b0 : decide (0 ≤ x10_1) = true := decide_eq_true c11
     clear c11
     replace H := Option.bind_eq_some_iff.mp H
     obtain ⟨t339, A120, H⟩ := H
     (try dsimp only at H)
     have A12 := Aside0.mk A120
     clear A120
     replace H := Option.bind_eq_some_iff.mp H
     obtain ⟨t342, A130, H⟩ := H
     (try dsimp only at H)
     have A13 := Aside0.mk A130
     clear A130
     have HC14 := Aside0.mk H
     clear H
     obtain ⟨Ao15, co15, eo15⟩ := Kd.R_slice HO_9.out
     subst eo15
     go_upto_if 32 with (first | ((with_reducible refine gate_callee (f := 50) rfl ?_); refine gl_ (some 28) Tryd.func50 #[.slice Ao15 x9_1.length co15, .slice Ao15 x9_1.length co15] ?_; (with_reducible refine (pelorusref01_Add.calls k1 _ _ x9_1 _ _ x9_1 t339 _ ?side1 ?side2 ?side3 ?side4 A12.out).mono ?_); (case side1 => exact kc_ (Kd.R_reads' HO_9.out).2.2); (case side2 => exact (Kd.R_reads' HO_9.out).2.1); (case side3 => exact kc_ (Kd.R_reads' HO_9.out).2.2); (case side4 => exact (Kd.R_reads' HO_9.out).2.1); rintro e w16 ⟨v340, rfl, ho0, hb⟩; refine ⟨_, rfl, ?_⟩; have HO341 := Aside0.mk (Kd.R_lower (Kd.R_new' (Kd.R_new' (Kd.R_new' ho0 (Kd.R_lt (kr_ HO_7.out))) (Kd.R_lt (kr_ HO_8.out))) (Kd.R_lt (kr_ HO_9.out))) (below_size (bw_ HB.out))); replace HO_7 := Aside0.mk (Kd.R_elder' (kr_ HO_7.out) (Kd.R_base ho0) hb); replace HO_8 := Aside0.mk (Kd.R_elder' (kr_ HO_8.out) (Kd.R_base ho0) hb); replace HO_9 := Aside0.mk (Kd.R_elder' (kr_ HO_9.out) (Kd.R_base ho0) hb); replace HB := bq_ HB hb; (try clear hb); (try clear hb2); (try clear hk); (try clear hi); (try clear ho0)) | ((with_reducible refine gate_callee (f := 83) rfl ?_); refine gl_ (some 31) Tryd.func83 #[.slice A0 l0.length c0, .int .i64 x10_1] ?_; (with_reducible refine (pelorusref01_bit.calls _ _ l0 x10_1 t342 _ ?side1 ?side2 A13.out).mono ?_); (case side1 => exact kc_ (Kd.C_below HR0.out HB.out)); (case side2 => exact HC0.out); rintro e w' ⟨rfl, ⟨nd, rfl⟩⟩; refine ⟨_, rfl, ?_⟩))
     (try simp only [Act.put, List.setIfInBounds_toArray, List.set_cons_zero, List.set_cons_succ])
     go_cut [9] (fun v9 wc => ∃ (kq : Nat) (x9_13 : List Int), Aside0 (pelorusref01_Div.j1 kq l0 t329 x8_1 x9_13 x10_1 = some (r1, r2, r3)) ∧ Aside0 (kq ≤ k1) ∧ Aside0 (Kd.R (Kd.int .u32) 53 wc w.heap.size (fun k_ => some k_ ≠ (u8 : Value).ownBlock ∧ some k_ ≠ (v9 : Value).ownBlock) (.slice Ao9 t329.length co9) t329) ∧ Aside0 (Kd.R (Kd.int .u32) 53 wc w.heap.size (fun k_ => some k_ ≠ ((.slice Ao9 t329.length co9) : Value).ownBlock ∧ some k_ ≠ (v9 : Value).ownBlock) u8 x8_1) ∧ Aside0 (Kd.R (Kd.int .u32) 53 wc w.heap.size (fun k_ => some k_ ≠ ((.slice Ao9 t329.length co9) : Value).ownBlock ∧ some k_ ≠ (u8 : Value).ownBlock) v9 x9_13) ∧ Aside0 (Below w.heap.size w wc))
     case first =>
      have H := HC14.out
      clear HC14
      by_cases c17 : t342 = true
      ·subst c17
       have H1 : ((pelorusref01_Add.f k1 t339 (([1] : List Int))).bind fun t346 => (pelorusref01_Div.j1 k1 l0 t329 x8_1 t346 x10_1)) = some (r1, r2, r3) := by rw [if_pos rfl] at H; exact H
       clear H
       have H := H1
       clear H1
       obtain ⟨y343, hy343⟩ : ∃ y_ : List Int, y_ = (([1] : List Int)) := ⟨_, rfl⟩
       replace H : ((pelorusref01_Add.f k1 t339 y343).bind fun t346 => (pelorusref01_Div.j1 k1 l0 t329 x8_1 t346 x10_1)) = some (r1, r2, r3) := by first | (rw [hy343]; with_reducible exact H) | (have H2_ := (Option.bind_some _ _).symm.trans H; rw [hy343]; with_reducible exact H2_) | (have H2_ := (Option.bind_some _ _).symm.trans H; with_reducible exact H2_) | with_reducible exact H | (rw [hy343]; exact H) | exact H
       have Ny343 := Aside0.mk hy343
       clear hy343
       replace H := Option.bind_eq_some_iff.mp H
       obtain ⟨t346, A180, H⟩ := H
       (try dsimp only at H)
       have A18 := Aside0.mk A180
       clear A180
       have H' := Aside0.mk H
       clear H
       go_wp2_with (first | ((with_reducible refine gate_dst (N := 34) rfl ?_); refine Kd.R_lit (Kd.int .u32) _ 53 ?hg (N := 34) ?hd (xs := ([1] : List Int)) (inner := [.int .u32 1]) (ok := fun _ => True) (okp := fun _ => True) ?hr ?hp (fun _ hk => hk) trivial (Below.refl _ _) (Nat.le_refl _) (by simp) ?_; (case hd => rfl); (case hg => rfl); (case hr => first | (go_simp; done) | (go_simp; rfl)); (case hp => exact (Reps.one (show Kd.M (Kd.int .u32) _ _ _ 1 [.int .u32 1] from rfl) (Reps.none _ _))); intro v344 w19 ho20 hb hg_ hnew_; clear hg_ hnew_; (first | rw [← Ny343.out] at ho20 | (simp only [Int.reduceToNat] at ho20; rw [← Ny343.out] at ho20)); have HO345 := Aside0.mk (Kd.R_lower (Kd.R_new' (Kd.R_new' (Kd.R_new' (Kd.R_new' ho20 (Kd.R_lt (kr_ HO_7.out))) (Kd.R_lt (kr_ HO_8.out))) (Kd.R_lt (kr_ HO_9.out))) (Kd.R_lt (kr_ HO341.out))) (below_size (bw_ HB.out))); replace HO_7 := Aside0.mk (Kd.R_elder' (kr_ HO_7.out) (Kd.R_base ho20) hb); replace HO_8 := Aside0.mk (Kd.R_elder' (kr_ HO_8.out) (Kd.R_base ho20) hb); replace HO_9 := Aside0.mk (Kd.R_elder' (kr_ HO_9.out) (Kd.R_base ho20) hb); replace HO341 := Aside0.mk (Kd.R_elder' (kr_ HO341.out) (Kd.R_base ho20) hb); replace HB := bq_ HB hb; clear hb ho20; obtain ⟨Ao21, co21, eo21⟩ := Kd.R_slice HO341.out; subst eo21; obtain ⟨Ao22, co22, eo22⟩ := Kd.R_slice HO345.out; subst eo22) | ((with_reducible refine gate_callee (f := 50) rfl ?_); refine gl_ (some 35) Tryd.func50 #[.slice Ao21 t339.length co21, .slice Ao22 y343.length co22] ?_; (with_reducible refine (pelorusref01_Add.calls k1 _ _ t339 _ _ y343 t346 _ ?side1 ?side2 ?side3 ?side4 A18.out).mono ?_); (case side1 => exact kc_ (Kd.R_reads' HO341.out).2.2); (case side2 => exact (Kd.R_reads' HO341.out).2.1); (case side3 => exact kc_ (Kd.R_reads' HO345.out).2.2); (case side4 => exact (Kd.R_reads' HO345.out).2.1); rintro e w23 ⟨v347, rfl, ho0, hb⟩; refine ⟨_, rfl, ?_⟩; have HO348 := Aside0.mk (Kd.R_lower (Kd.R_new' (Kd.R_new' (Kd.R_new' (Kd.R_new' (Kd.R_new' ho0 (Kd.R_lt (kr_ HO_7.out))) (Kd.R_lt (kr_ HO_8.out))) (Kd.R_lt (kr_ HO_9.out))) (Kd.R_lt (kr_ HO341.out))) (Kd.R_lt (kr_ HO345.out))) (below_size (bw_ HB.out))); replace HO_7 := Aside0.mk (Kd.R_elder' (kr_ HO_7.out) (Kd.R_base ho0) hb); replace HO_8 := Aside0.mk (Kd.R_elder' (kr_ HO_8.out) (Kd.R_base ho0) hb); replace HO_9 := Aside0.mk (Kd.R_elder' (kr_ HO_9.out) (Kd.R_base ho0) hb); replace HO341 := Aside0.mk (Kd.R_elder' (kr_ HO341.out) (Kd.R_base ho0) hb); replace HO345 := Aside0.mk (Kd.R_elder' (kr_ HO345.out) (Kd.R_base ho0) hb); replace HB := bq_ HB hb; (try clear hb); (try clear hb2); (try clear hk); (try clear hi); (try clear ho0)))
       go_meet
       case rel => exact ⟨_, (t346), H', ⟨by have := HK1.out; first | omega | exact Nat.le_refl _⟩, ⟨by (with_reducible repeat (first | apply Kd.R_alloc | apply Kd.R_drewN | apply Kd.R_drew)); exact Kd.R_mono HO_7.out (fun _ hk => by first | exact ⟨hk.1.1.1.1, hk.2⟩ | (simp only [ob_map] at hk ⊢; exact ⟨hk.1.1.1.1, hk.2⟩))⟩, ⟨by (with_reducible repeat (first | apply Kd.R_alloc | apply Kd.R_drewN | apply Kd.R_drew)); exact Kd.R_mono HO_8.out (fun _ hk => by first | exact ⟨hk.1.1.1.1, hk.2⟩ | (simp only [ob_map] at hk ⊢; exact ⟨hk.1.1.1.1, hk.2⟩))⟩, ⟨by (with_reducible repeat (first | apply Kd.R_alloc | apply Kd.R_drewN | apply Kd.R_drew)); exact Kd.R_mono HO348.out (fun _ hk => by first | exact ⟨hk.1.1.1.1.2, hk.1.1.1.2⟩ | (simp only [ob_map] at hk ⊢; exact ⟨hk.1.1.1.1.2, hk.1.1.1.2⟩))⟩, ⟨bw_ HB.out⟩⟩
      ·replace c17 := Bool.eq_false_iff.mpr c17
       subst c17
       have H1 : (pelorusref01_Div.j1 k1 l0 t329 x8_1 t339 x10_1) = some (r1, r2, r3) := by rw [if_neg (show ¬ (false = true) by decide)] at H; exact H
       clear H
       have H := H1
       clear H1
       have H' := Aside0.mk H
       clear H
       go_wp2
       go_meet
       case rel => exact ⟨_, (t339), H', ⟨by have := HK1.out; first | omega | exact Nat.le_refl _⟩, ⟨by (with_reducible repeat (first | apply Kd.R_alloc | apply Kd.R_drewN | apply Kd.R_drew)); exact Kd.R_mono HO_7.out (fun _ hk => by first | exact ⟨hk.1.1, hk.2⟩ | (simp only [ob_map] at hk ⊢; exact ⟨hk.1.1, hk.2⟩))⟩, ⟨by (with_reducible repeat (first | apply Kd.R_alloc | apply Kd.R_drewN | apply Kd.R_drew)); exact Kd.R_mono HO_8.out (fun _ hk => by first | exact ⟨hk.1.1, hk.2⟩ | (simp only [ob_map] at hk ⊢; exact ⟨hk.1.1, hk.2⟩))⟩, ⟨by (with_reducible repeat (first | apply Kd.R_alloc | apply Kd.R_drewN | apply Kd.R_drew)); exact Kd.R_mono HO341.out (fun _ hk => by first | exact ⟨hk.1.1.2, hk.1.2⟩ | (simp only [ob_map] at hk ⊢; exact ⟨hk.1.1.2, hk.1.2⟩))⟩, ⟨bw_ HB.out⟩⟩
     case rest =>
      clear HC14
      try clear c1
      try clear p2
      try clear c4
      try clear c4b0
      try clear c4b1
      try clear c4b2
      try clear c5
      try clear p6
      try clear c7
      try clear c8
      try clear c11
      try clear c11b0
      try clear c17
      try clear p2
      try clear p6
      obtain ⟨kq, x9_13, HA, HJ13, HO_7, HO_8, HO_9, HB⟩ := hcut
      cases kq with
      | zero => exact absurd HA.out (by simp [pelorusref01_Div.j1])
      | succ kj13 =>
       have H := HA.out
       clear HA
       simp only [pelorusref01_Div.j1] at H
       replace H := Option.bind_eq_some_iff.mp H
       obtain ⟨⟨t349, t350⟩, A240, H⟩ := H
       (try dsimp only at H)
       have A24 := Aside0.mk A240
       clear A240
       by_cases c25 : t350 = true
       ·subst c25
        have H1 : ((pelorusref01_set.f kj13 x8_1 x10_1).bind fun t353 => (pelorusref01_Div.l0 kj13 l0 t329 t353 t349 (wrap64 (x10_1 - 1)))) = some (r1, r2, r3) := by rw [if_pos rfl] at H; exact H
        clear H
        have H := H1
        clear H1
        replace H := Option.bind_eq_some_iff.mp H
        obtain ⟨t353, A260, H⟩ := H
        (try dsimp only at H)
        have A26 := Aside0.mk A260
        clear A260
        have H' := Aside0.mk H
        clear H
        obtain ⟨Ao27, co27, eo27⟩ := Kd.R_slice HO_9.out
        subst eo27
        go_wp2_with (first | ((with_reducible refine gate_callee (f := 84) rfl ?_); refine gl_ (some 39) Tryd.func84 #[.slice Ao27 x9_13.length co27, .slice Ao9 t329.length co9] ?_; (with_reducible refine (pelorusref01_Sub.calls kj13 _ _ x9_13 _ _ t329 t349 true _ ?side1 ?side2 ?side3 ?side4 A24.out).mono ?_); (case side1 => exact kc_ (Kd.R_reads' HO_9.out).2.2); (case side2 => exact (Kd.R_reads' HO_9.out).2.1); (case side3 => exact kc_ (Kd.R_reads' HO_7.out).2.2); (case side4 => exact (Kd.R_reads' HO_7.out).2.1); rintro e w28 ⟨v351, rfl, ho0, hb⟩; refine ⟨_, rfl, ?_⟩; have HO352 := Aside0.mk (Kd.R_lower (Kd.R_new' (Kd.R_new' (Kd.R_new' ho0 (Kd.R_lt (kr_ HO_7.out))) (Kd.R_lt (kr_ HO_8.out))) (Kd.R_lt (kr_ HO_9.out))) (below_size (bw_ HB.out))); replace HO_7 := Aside0.mk (Kd.R_elder' (kr_ HO_7.out) (Kd.R_base ho0) hb); replace HO_8 := Aside0.mk (Kd.R_elder' (kr_ HO_8.out) (Kd.R_base ho0) hb); replace HO_9 := Aside0.mk (Kd.R_elder' (kr_ HO_9.out) (Kd.R_base ho0) hb); replace HB := bq_ HB hb; (try clear hb); (try clear hb2); (try clear hk); (try clear hi); (try clear ho0); obtain ⟨Ao29, co29, eo29⟩ := Kd.R_slice HO_8.out; subst eo29) | ((with_reducible refine gate_callee (f := 85) rfl ?_); refine gl_ (some 46) Tryd.func85 #[.slice Ao29 x8_1.length co29, .int .i64 x10_1] ?_; (with_reducible refine (pelorusref01_set.calls kj13 _ _ x8_1 x10_1 t353 _ ?side1 ?side2 A26.out).mono ?_); (case side1 => exact kc_ (Kd.R_reads' HO_8.out).2.2); (case side2 => exact (Kd.R_reads' HO_8.out).2.1); rintro e w30 ⟨v354, rfl, ho0, hb⟩; refine ⟨_, rfl, ?_⟩; have HO355 := Aside0.mk (Kd.R_lower (Kd.R_new' (Kd.R_new' (Kd.R_new' (Kd.R_new' ho0 (Kd.R_lt (kr_ HO_7.out))) (Kd.R_lt (kr_ HO_8.out))) (Kd.R_lt (kr_ HO_9.out))) (Kd.R_lt (kr_ HO352.out))) (below_size (bw_ HB.out))); replace HO_7 := Aside0.mk (Kd.R_elder' (kr_ HO_7.out) (Kd.R_base ho0) hb); replace HO_8 := Aside0.mk (Kd.R_elder' (kr_ HO_8.out) (Kd.R_base ho0) hb); replace HO_9 := Aside0.mk (Kd.R_elder' (kr_ HO_9.out) (Kd.R_base ho0) hb); replace HO352 := Aside0.mk (Kd.R_elder' (kr_ HO352.out) (Kd.R_base ho0) hb); replace HB := bq_ HB hb; (try clear hb); (try clear hb2); (try clear hk); (try clear hi); (try clear ho0)))
        go_roundg kj13
        case measure => have := HK1.out; have := HJ13.out; omega
        case rel => exact ⟨(t353), (t349), (wrap64 (x10_1 - 1)), (by first | rfl | (simp; done) | (simp [*]; done)), H', ⟨by have := HK1.out; have := HJ13.out; omega⟩, ⟨by (with_reducible repeat (first | apply Kd.R_alloc | apply Kd.R_drewN | apply Kd.R_drew)); exact Kd.R_mono HO_7.out (fun _ hk => by first | exact ⟨hk.2, hk.1.2⟩ | (simp only [ob_map] at hk ⊢; exact ⟨hk.2, hk.1.2⟩))⟩, ⟨by (with_reducible repeat (first | apply Kd.R_alloc | apply Kd.R_drewN | apply Kd.R_drew)); exact Kd.R_mono HO355.out (fun _ hk => by first | exact ⟨hk.1.1.1.2, hk.2⟩ | (simp only [ob_map] at hk ⊢; exact ⟨hk.1.1.1.2, hk.2⟩))⟩, ⟨by (with_reducible repeat (first | apply Kd.R_alloc | apply Kd.R_drewN | apply Kd.R_drew)); exact Kd.R_mono HO352.out (fun _ hk => by first | exact ⟨hk.1.1.1.2, hk.2⟩ | (simp only [ob_map] at hk ⊢; exact ⟨hk.1.1.1.2, hk.2⟩))⟩, ⟨bw_ HB.out⟩⟩
       ·replace c25 := Bool.eq_false_iff.mpr c25
        subst c25
        have H1 : (pelorusref01_Div.l0 kj13 l0 t329 x8_1 x9_13 (wrap64 (x10_1 - 1))) = some (r1, r2, r3) := by rw [if_neg (show ¬ (false = true) by decide)] at H; exact H
        clear H
        have H := H1
        clear H1
        have H' := Aside0.mk H
        clear H
        obtain ⟨Ao31, co31, eo31⟩ := Kd.R_slice HO_9.out
        subst eo31
        go_wp2_with (first | ((with_reducible refine gate_callee (f := 84) rfl ?_); refine gl_ (some 39) Tryd.func84 #[.slice Ao31 x9_13.length co31, .slice Ao9 t329.length co9] ?_; (with_reducible refine (pelorusref01_Sub.calls kj13 _ _ x9_13 _ _ t329 t349 false _ ?side1 ?side2 ?side3 ?side4 A24.out).mono ?_); (case side1 => exact kc_ (Kd.R_reads' HO_9.out).2.2); (case side2 => exact (Kd.R_reads' HO_9.out).2.1); (case side3 => exact kc_ (Kd.R_reads' HO_7.out).2.2); (case side4 => exact (Kd.R_reads' HO_7.out).2.1); rintro e w32 ⟨v351, rfl, ho0, hb⟩; refine ⟨_, rfl, ?_⟩; have HO352 := Aside0.mk (Kd.R_lower (Kd.R_new' (Kd.R_new' (Kd.R_new' ho0 (Kd.R_lt (kr_ HO_7.out))) (Kd.R_lt (kr_ HO_8.out))) (Kd.R_lt (kr_ HO_9.out))) (below_size (bw_ HB.out))); replace HO_7 := Aside0.mk (Kd.R_elder' (kr_ HO_7.out) (Kd.R_base ho0) hb); replace HO_8 := Aside0.mk (Kd.R_elder' (kr_ HO_8.out) (Kd.R_base ho0) hb); replace HO_9 := Aside0.mk (Kd.R_elder' (kr_ HO_9.out) (Kd.R_base ho0) hb); replace HB := bq_ HB hb; (try clear hb); (try clear hb2); (try clear hk); (try clear hi); (try clear ho0)))
        go_roundg kj13
        case measure => have := HK1.out; have := HJ13.out; omega
        case rel => exact ⟨(x8_1), (x9_13), (wrap64 (x10_1 - 1)), (by first | rfl | (simp; done) | (simp [*]; done)), H', ⟨by have := HK1.out; have := HJ13.out; omega⟩, ⟨by (with_reducible repeat (first | apply Kd.R_alloc | apply Kd.R_drewN | apply Kd.R_drew)); exact Kd.R_mono HO_7.out (fun _ hk => by first | exact ⟨hk.1.1, hk.1.2⟩ | (simp only [ob_map] at hk ⊢; exact ⟨hk.1.1, hk.1.2⟩))⟩, ⟨by (with_reducible repeat (first | apply Kd.R_alloc | apply Kd.R_drewN | apply Kd.R_drew)); exact Kd.R_mono HO_8.out (fun _ hk => by first | exact ⟨hk.1.1, hk.1.2⟩ | (simp only [ob_map] at hk ⊢; exact ⟨hk.1.1, hk.1.2⟩))⟩, ⟨by (with_reducible repeat (first | apply Kd.R_alloc | apply Kd.R_drewN | apply Kd.R_drew)); exact Kd.R_mono HO_9.out (fun _ hk => by first | exact ⟨hk.1.1, hk.1.2⟩ | (simp only [ob_map] at hk ⊢; exact ⟨hk.1.1, hk.1.2⟩))⟩, ⟨bw_ HB.out⟩⟩
    ·rw [if_neg c11] at H
     have c11b0 : decide (0 ≤ x10_1) = false := decide_eq_false c11
     clear c11
     replace H := Option.bind_eq_some_iff.mp H
     obtain ⟨t333, A330, H⟩ := H
     (try dsimp only at H)
     have A33 := Aside0.mk A330
     clear A330
     replace H := Option.bind_eq_some_iff.mp H
     obtain ⟨t336, A340, H⟩ := H
     (try dsimp only at H)
     have A34 := Aside0.mk A340
     clear A340
     simp only [Option.some.injEq, Prod.mk.injEq] at H
     obtain ⟨rfl, rfl, rfl⟩ := H
     obtain ⟨Ao35, co35, eo35⟩ := Kd.R_slice HO_8.out
     subst eo35
     go_wp2_with (first | ((with_reducible refine gate_callee (f := 70) rfl ?_); refine gl_ (some 48) Tryd.func70 #[.slice Ao35 x8_1.length co35] ?_; (with_reducible refine (pelorusref01_Trim.calls k1 _ _ x8_1 t333 _ ?side1 ?side2 A33.out).mono ?_); (case side1 => exact kc_ (Kd.R_reads' HO_8.out).2.2); (case side2 => exact (Kd.R_reads' HO_8.out).2.1); rintro e w36 ⟨v334, rfl, ho0, hb⟩; refine ⟨_, rfl, ?_⟩; have HO335 := Aside0.mk (Kd.R_lower (Kd.R_new' (Kd.R_new' (Kd.R_new' ho0 (Kd.R_lt (kr_ HO_7.out))) (Kd.R_lt (kr_ HO_8.out))) (Kd.R_lt (kr_ HO_9.out))) (below_size (bw_ HB.out))); replace HO_7 := Aside0.mk (Kd.R_elder' (kr_ HO_7.out) (Kd.R_base ho0) hb); replace HO_8 := Aside0.mk (Kd.R_elder' (kr_ HO_8.out) (Kd.R_base ho0) hb); replace HO_9 := Aside0.mk (Kd.R_elder' (kr_ HO_9.out) (Kd.R_base ho0) hb); replace HB := bq_ HB hb; (try clear hb); (try clear hb2); (try clear hk); (try clear hi); (try clear ho0); obtain ⟨Ao37, co37, eo37⟩ := Kd.R_slice HO_9.out; subst eo37) | ((with_reducible refine gate_callee (f := 70) rfl ?_); refine gl_ (some 50) Tryd.func70 #[.slice Ao37 x9_1.length co37] ?_; (with_reducible refine (pelorusref01_Trim.calls k1 _ _ x9_1 t336 _ ?side1 ?side2 A34.out).mono ?_); (case side1 => exact kc_ (Kd.R_reads' HO_9.out).2.2); (case side2 => exact (Kd.R_reads' HO_9.out).2.1); rintro e w38 ⟨v337, rfl, ho0, hb⟩; refine ⟨_, rfl, ?_⟩; have HO338 := Aside0.mk (Kd.R_lower (Kd.R_new' (Kd.R_new' (Kd.R_new' (Kd.R_new' ho0 (Kd.R_lt (kr_ HO_7.out))) (Kd.R_lt (kr_ HO_8.out))) (Kd.R_lt (kr_ HO_9.out))) (Kd.R_lt (kr_ HO335.out))) (below_size (bw_ HB.out))); replace HO_7 := Aside0.mk (Kd.R_elder' (kr_ HO_7.out) (Kd.R_base ho0) hb); replace HO_8 := Aside0.mk (Kd.R_elder' (kr_ HO_8.out) (Kd.R_base ho0) hb); replace HO_9 := Aside0.mk (Kd.R_elder' (kr_ HO_9.out) (Kd.R_base ho0) hb); replace HO335 := Aside0.mk (Kd.R_elder' (kr_ HO335.out) (Kd.R_base ho0) hb); replace HB := bq_ HB hb; (try clear hb); (try clear hb2); (try clear hk); (try clear hi); (try clear ho0)))
     go_ret3
     exact ⟨_, _, rf_, by (with_reducible repeat (first | apply Kd.R_alloc | apply Kd.R_drewN | apply Kd.R_drew)); exact Kd.R_mono HO335.out (fun _ hk => hk.2), by (with_reducible repeat (first | apply Kd.R_alloc | apply Kd.R_drewN | apply Kd.R_drew)); exact Kd.R_mono HO338.out (fun _ hk => hk.2), bw_ HB.out⟩

/-! ### pelorusref01_Shr: function 49 -/
set_option maxHeartbeats 8000000 in
set_option maxRecDepth 100000 in
theorem pelorusref01_Shr.calls (k : Nat) (A0 : Option Addr) (c0 : Nat) (l0 : List Int) (a1 : Int) (r : List Int) (w : World) (hr0 : Kd.C (Kd.int .u32) w A0 l0.length l0) (hc0 : l0.length ≤ c0) (h : pelorusref01_Shr.f k l0 a1 = some r) :
  Calls Tryd.prog 49 #[.slice A0 l0.length c0, .int .i64 a1] w fun e w' => ∃ v0_ : Value, e = .returned (v0_) ∧ Kd.R (Kd.int .u32) 53 w' w.heap.size (fun _ => True) v0_ r ∧ Below w.heap.size w w' := by
 have HR0 := Aside0.mk hr0
 have HC0 := Aside0.mk hc0
 clear hr0 hc0
 have HB := Aside0.mk (Below.refl w.heap.size w)
 have H : (if a1 < 1 then ((pelorusref01_Trim.f k l0).bind fun t356 => (some t356)) else (if a1 ≥ (wrap64 (32 * (l0.length : Int))) then (some ([] : List Int)) else (if 0 ≤ (wrap64 (Int.tdiv a1 32)) then (if (wrap64 (Int.tdiv a1 32)) ≤ (l0.length : Int) then ((pelorusref01_Trim.f k (l0.drop ((wrap64 (Int.tdiv a1 32)) : Int).toNat)).bind fun t360 => (if 0 ≤ (IntKind.u64.wrap (Int.tmod a1 32)) then ((pelorusref01_Div.f k t360 (([shl .u32 1 (IntKind.u64.wrap (Int.tmod a1 32))] : List Int))).bind fun bt366 => (some bt366.1)) else (none))) else (none)) else (none)))) = some r := h
 clear h
 by_cases c3 : a1 < 1
 ·rw [if_pos c3] at H
  have c3b0 : decide (a1 < 1) = true := decide_eq_true c3
  clear c3
  replace H := Option.bind_eq_some_iff.mp H
  obtain ⟨t356, A40, H⟩ := H
  (try dsimp only at H)
  have A4 := Aside0.mk A40
  clear A40
  obtain rfl := Option.some.inj H
  go_enter Tryd.func49, Tryd.ntmps49
  go_wp2_with (first | ((with_reducible refine gate_callee (f := 70) rfl ?_); refine gl_ (some 12) Tryd.func70 #[.slice A0 l0.length c0] ?_; (with_reducible refine (pelorusref01_Trim.calls k _ _ l0 t356 _ ?side1 ?side2 A4.out).mono ?_); (case side1 => exact kc_ HR0.out); (case side2 => exact HC0.out); rintro e w5 ⟨v357, rfl, ho0, hb⟩; refine ⟨_, rfl, ?_⟩; have HO358 := Aside0.mk (Kd.R_lower ho0 (below_size (bw_ HB.out))); replace HB := bq_ HB hb; (try clear hb); (try clear hb2); (try clear hk); (try clear hi); (try clear ho0)))
  go_ret
  exact ⟨_, rf_, by (with_reducible repeat (first | apply Kd.R_alloc | apply Kd.R_drewN | apply Kd.R_drew)); exact HO358.out, bw_ HB.out⟩
 ·rw [if_neg c3] at H
  have c3b0 : decide (a1 < 1) = false := decide_eq_false c3
  clear c3
  by_cases c6 : a1 ≥ (wrap64 (32 * (l0.length : Int)))
  ·rw [if_pos c6] at H
   have c6b0 : decide ((wrap64 (32 * (l0.length : Int))) ≤ a1) = true := decide_eq_true c6
   clear c6
   obtain rfl := Option.some.inj H
   go_enter Tryd.func49, Tryd.ntmps49
   go_wp2
   go_ret
   exact ⟨_, rf_, by first | exact Kd.R_nil _ _ _ _ _ | exact Kd.N_nil _ _ _ _ _ | exact Kd.V_nil _ _ _ _ _ | exact Kd.Q_nil _ _ _ _ _ | exact Kd.S_nil _ _ _ _ _, bw_ HB.out⟩
  ·rw [if_neg c6] at H
   have c6b0 : decide ((wrap64 (32 * (l0.length : Int))) ≤ a1) = false := decide_eq_false c6
   clear c6
   obtain ⟨ji7, hji7⟩ : ∃ j_ : Int, (wrap64 (Int.tdiv a1 32)) = j_ := ⟨_, rfl⟩
   (first | rw [hji7] at H | simp only [hji7] at H)
   have hji7w : (IntKind.i64.wrap (Int.tdiv a1 32)) = ji7 := (i64_w _).trans hji7
   by_cases c8 : 0 ≤ (ji7)
   ·rw [if_pos c8] at H
    have c8b0 := eq_true c8
    have c8b1 : decide (0 ≤ (ji7)) = true := decide_eq_true c8
    clear c8
    by_cases c9 : (ji7) ≤ (l0.length : Int)
    ·rw [if_pos c9] at H
     have c9b0 := eq_true c9
     have c9b1 : decide ((ji7) ≤ (l0.length : Int)) = true := decide_eq_true c9
     clear c9
     replace H := Option.bind_eq_some_iff.mp H
     obtain ⟨t360, A100, H⟩ := H
     (try dsimp only at H)
     have A10 := Aside0.mk A100
     clear A100
     obtain ⟨ji11, hji11⟩ : ∃ j_ : Int, (IntKind.u64.wrap (Int.tmod a1 32)) = j_ := ⟨_, rfl⟩
     (first | rw [hji11] at H | simp only [hji11] at H)
     (try rw [hji11] at A10)
     by_cases c12 : 0 ≤ (ji11)
     ·rw [if_pos c12] at H
      have c12b0 := eq_true c12
      have c12b1 : decide (0 ≤ (ji11)) = true := decide_eq_true c12
      clear c12
      obtain ⟨ji13, hji13⟩ : ∃ j_ : Int, (shl .u32 1 (ji11)) = j_ := ⟨_, rfl⟩
      (first | rw [hji13] at H | simp only [hji13] at H)
      (try rw [hji13] at A10)
      have hji13_ : (IntKind.u32.wrap (1 * 2 ^ min (ji11).toNat 32)) = ji13 := hji13
      have hji13z : (ji11) ≤ 32 → (IntKind.u32.wrap (1 * 2 ^ (ji11).toNat)) = ji13 := shl_small hji13
      have hji13u : (IntKind.u32.wrap (2 ^ min (ji11).toNat 32)) = ji13 := by have h_ := hji13_; rw [Int.one_mul] at h_; exact h_
      have hji13v : (ji11) ≤ 32 → (IntKind.u32.wrap (2 ^ (ji11).toNat)) = ji13 := fun hle_ => by have h_ := hji13z hle_; rw [Int.one_mul] at h_; exact h_
      obtain ⟨y363, hy363⟩ : ∃ y_ : List Int, y_ = (([ji13] : List Int)) := ⟨_, rfl⟩
      replace H : ((pelorusref01_Div.f k t360 y363).bind fun bt366 => (some bt366.1)) = some r := by first | (rw [hy363]; with_reducible exact H) | (have H2_ := (Option.bind_some _ _).symm.trans H; rw [hy363]; with_reducible exact H2_) | (have H2_ := (Option.bind_some _ _).symm.trans H; with_reducible exact H2_) | with_reducible exact H | (rw [hy363]; exact H) | exact H
      have Ny363 := Aside0.mk hy363
      clear hy363
      replace H := Option.bind_eq_some_iff.mp H
      obtain ⟨⟨t366, t367, t368⟩, A140, H⟩ := H
      (try dsimp only at H)
      have A14 := Aside0.mk A140
      clear A140
      obtain rfl := Option.some.inj H
      obtain ⟨i015, hi015, _, hsz15, _⟩ := info_parts info53
      obtain ⟨A15, hcut15, hA15, hC15⟩ := print_drop_of (P := Tryd.prog) (Value.int .u32) 0 22 53 .i64 Tryd.underlying22 hi015 hsz15 A0 c0 l0 (ji7) (of_decide_eq_true (by first | (with_reducible assumption) | assumption)) (of_decide_eq_true (by first | (with_reducible assumption) | assumption)) HC0.out
      have HR359 := Aside0.mk (Kd.C_of_reads (h1 := fun _ => rfl) (hA15 _ (Kd.reads_of_C HR0.out)))
      have HC359 := Aside0.mk hC15
      clear hA15 hC15 hi015 hsz15
      go_enter Tryd.func49, Tryd.ntmps49
      go_wp2_with (first | ((with_reducible refine gate_callee (f := 70) rfl ?_); refine goesL_ (some 22) rfl rfl Tryd.func70 (by kernel_rfl) rfl #[.slice A15 (l0.drop ((ji7) : Int).toNat).length (c0 - (ji7).toNat)] rfl (by (try simp only [List.map_toArray, List.map_cons, List.map_nil]); first | done | (rw [show (l0.drop ((ji7) : Int).toNat).length = (l0.length - (ji7).toNat) from List.length_drop] <;> rfl) | (simp only [hji7]; rfl) | rfl | (simp only [List.length_drop, List.length_take]; rfl)) ?_; (with_reducible refine (pelorusref01_Trim.calls k _ _ (l0.drop ((ji7) : Int).toNat) t360 _ ?side1 ?side2 A10.out).mono ?_); (case side1 => exact kc_ HR359.out); (case side2 => exact HC359.out); rintro e w16 ⟨v361, rfl, ho0, hb⟩; refine ⟨_, rfl, ?_⟩; have HO362 := Aside0.mk (Kd.R_lower ho0 (below_size (bw_ HB.out))); replace HB := bq_ HB hb; (try clear hb); (try clear hb2); (try clear hk); (try clear hi); (try clear ho0)) | ((with_reducible refine gate_dst (N := 29) rfl ?_); refine Kd.R_lit (Kd.int .u32) _ 53 ?hg (N := 29) ?hd (xs := ([ji13] : List Int)) (inner := [.int .u32 ji13]) (ok := fun _ => True) (okp := fun _ => True) ?hr ?hp (fun _ hk => hk) trivial (Below.refl _ _) (Nat.le_refl _) (by simp) ?_; (case hd => rfl); (case hg => rfl); (case hr => first | (go_simp; done) | (go_simp; rfl)); (case hp => exact (Reps.one (show Kd.M (Kd.int .u32) _ _ _ ji13 [.int .u32 ji13] from rfl) (Reps.none _ _))); intro v364 w17 ho18 hb hg_ hnew_; clear hg_ hnew_; (first | rw [← Ny363.out] at ho18 | (simp only [Int.reduceToNat] at ho18; rw [← Ny363.out] at ho18)); have HO365 := Aside0.mk (Kd.R_lower (Kd.R_new' ho18 (Kd.R_lt (kr_ HO362.out))) (below_size (bw_ HB.out))); replace HO362 := Aside0.mk (Kd.R_elder' (kr_ HO362.out) (Kd.R_base ho18) hb); replace HB := bq_ HB hb; clear hb ho18; obtain ⟨Ao19, co19, eo19⟩ := Kd.R_slice HO362.out; subst eo19; obtain ⟨Ao20, co20, eo20⟩ := Kd.R_slice HO365.out; subst eo20) | ((with_reducible refine gate_callee (f := 72) rfl ?_); refine gl_ (some 30) Tryd.func72 #[.slice Ao19 t360.length co19, .slice Ao20 y363.length co20] ?_; (with_reducible refine (pelorusref01_Div.calls k _ _ t360 _ _ y363 t366 t367 t368 _ ?side1 ?side2 ?side3 ?side4 A14.out).mono ?_); (case side1 => exact kc_ (Kd.R_reads' HO362.out).2.2); (case side2 => exact (Kd.R_reads' HO362.out).2.1); (case side3 => exact kc_ (Kd.R_reads' HO365.out).2.2); (case side4 => exact (Kd.R_reads' HO365.out).2.1); rintro e w21 ⟨v369, v371, rfl, ho0, ho1, hb⟩; refine ⟨_, rfl, ?_⟩; have HO370 := Aside0.mk (Kd.R_lower (Kd.R_new' (Kd.R_new' ho0 (Kd.R_lt (kr_ HO362.out))) (Kd.R_lt (kr_ HO365.out))) (below_size (bw_ HB.out))); have HO372 := Aside0.mk (Kd.R_lower (Kd.R_new' (Kd.R_new' ho1 (Kd.R_lt (kr_ HO362.out))) (Kd.R_lt (kr_ HO365.out))) (below_size (bw_ HB.out))); replace HO362 := Aside0.mk (Kd.R_mono (Kd.R_told (Kd.R_told (Kd.R_old (kr_ HO362.out) hb) (Kd.R_base ho0)) (Kd.R_base ho1)) (fun _ h_ => h_.1)); replace HO365 := Aside0.mk (Kd.R_mono (Kd.R_told (Kd.R_told (Kd.R_old (kr_ HO365.out) hb) (Kd.R_base ho0)) (Kd.R_base ho1)) (fun _ h_ => h_.1)); replace HB := bq_ HB hb; (try clear hb); (try clear hb2); (try clear hk); (try clear hi); (try clear ho0); (try clear ho1)))
      go_ret
      exact ⟨_, by first | rfl | (simp [errW_none, errW_some] <;> rfl) | (simp only [← hji7, ← hji11, ← hji13]; first | rfl | (simp [errW_none, errW_some] <;> rfl)) | (simp [*, errW_none, errW_some] <;> rfl), by (with_reducible repeat (first | apply Kd.R_alloc | apply Kd.R_drewN | apply Kd.R_drew)); exact Kd.R_mono HO370.out (fun _ hk => trivial), bw_ HB.out⟩
     ·rw [if_neg c12] at H
      exact absurd H (by simp)
    ·rw [if_neg c9] at H
     exact absurd H (by simp)
   ·rw [if_neg c8] at H
    exact absurd H (by simp)

/-! ### pelorusref02_Make: function 60 -/
set_option maxHeartbeats 8000000 in
set_option maxRecDepth 100000 in
theorem pelorusref02_Make.calls (k : Nat) (a0 : Bool) (A1 : Option Addr) (c1 : Nat) (l1 : List Int) (r1 : Bool) (r2 : List Int) (w : World) (hr1 : Kd.C (Kd.int .u32) w A1 l1.length l1) (hc1 : l1.length ≤ c1) (h : pelorusref02_Make.f k a0 l1 = some (r1, r2)) :
  Calls Tryd.prog 60 #[.bool a0, .slice A1 l1.length c1] w fun e w' => ∃ v1_ : Value, e = .returned (.agg #[.bool r1, v1_]) ∧ Kd.R (Kd.int .u32) 53 w' w.heap.size (fun _ => True) v1_ r2 ∧ Below w.heap.size w w' := by
 have hu24 := Tryd.underlying24
 have HR1 := Aside0.mk hr1
 have HC1 := Aside0.mk hc1
 clear hr1 hc1
 have HB := Aside0.mk (Below.refl w.heap.size w)
 have H : ((pelorusref01_Trim.f k l1).bind fun t374 => (if a0 = true then (some (decide ((t374.length : Int) > 0), t374)) else (some (false, t374)))) = some (r1, r2) := h
 clear h
 replace H := Option.bind_eq_some_iff.mp H
 obtain ⟨t374, A30, H⟩ := H
 (try dsimp only at H)
 have A3 := Aside0.mk A30
 clear A30
 by_cases c4 : a0 = true
 ·subst c4
  have H1 : (some (decide ((t374.length : Int) > 0), t374)) = some (r1, r2) := by rw [if_pos rfl] at H; exact H
  clear H
  have H := H1
  clear H1
  simp only [Option.some.injEq, Prod.mk.injEq] at H
  obtain ⟨rfl, rfl⟩ := H
  go_enter Tryd.func60, Tryd.ntmps60
  go_wp2_with (first | ((with_reducible refine gate_dst (N := 4) rfl ?_); (try (refine gate_guard (by rfl) ?_; dsimp only)); refine bx_ 4 #[.bool false, .slice none 0 0] 24 ?_; intro gb373 hg w5 hbox hb; have BK373 := Aside0.mk (hbox); have GW373 := ge_ hg HB; have GE373 := ge_ hg HB; replace HB := bq_ HB hb; clear hb hbox hg) | ((with_reducible refine gate_callee (f := 70) rfl ?_); refine gl_ (some 7) Tryd.func70 #[.slice A1 l1.length c1] ?_; (with_reducible refine (pelorusref01_Trim.calls k _ _ l1 t374 _ ?side1 ?side2 A3.out).mono ?_); (case side1 => exact kc_ (Kd.C_below HR1.out HB.out)); (case side2 => exact HC1.out); rintro e w6 ⟨v375, rfl, ho0, hb⟩; refine ⟨_, rfl, ?_⟩; have HO376 := Aside0.mk (Kd.R_lower ho0 (below_size (bw_ HB.out))); replace BK373 := kq_ BK373 hb; replace HB := bq_ HB hb; (try clear hb); (try clear hb2); (try clear hk); (try clear hi); (try clear ho0); obtain ⟨Ao7, co7, eo7⟩ := Kd.R_slice HO376.out; subst eo7; obtain ⟨hcz8_0, hcz8_1, hfz8_0, hfz8_1⟩ := c2_ BK373))
  refine bodyPost_ret (results_cell_row rfl _ _ gb373 24 #[.bool (decide ((t374.length : Int) > 0)), .slice Ao7 t374.length co7] (0, 0) _ rfl (by refine kb_ ?_; refine bp_ #[.bool (decide ((t374.length : Int) > 0)), .slice none 0 0] 1 ?_; refine bp_ #[.bool false, .slice none 0 0] 0 ?_; exact BK373.out) Tryd.underlying24 rfl (by kernel_rfl)) rfl ?_
  exact ⟨_, rf_, by (with_reducible repeat (first | apply Kd.R_alloc | apply Kd.R_drewN | apply Kd.R_drew)); exact Kd.R_mono (Kd.R_far (p := ⟨gb373, 1, none⟩) (Kd.R_far (p := ⟨gb373, 0, none⟩) (Kd.R_types HO376.out BK373.out (by decide)) (fun _ hk => hk.2) _) (fun _ hk => hk.2) (.slice Ao7 t374.length co7)) (fun _ hk => trivial), bw_ HB.out⟩
 ·replace c4 := Bool.eq_false_iff.mpr c4
  subst c4
  have H1 : (some (false, t374)) = some (r1, r2) := by rw [if_neg (show ¬ (false = true) by decide)] at H; exact H
  clear H
  have H := H1
  clear H1
  simp only [Option.some.injEq, Prod.mk.injEq] at H
  obtain ⟨rfl, rfl⟩ := H
  go_enter Tryd.func60, Tryd.ntmps60
  go_wp2_with (first | ((with_reducible refine gate_dst (N := 4) rfl ?_); (try (refine gate_guard (by rfl) ?_; dsimp only)); refine bx_ 4 #[.bool false, .slice none 0 0] 24 ?_; intro gb373 hg w9 hbox hb; have BK373 := Aside0.mk (hbox); have GW373 := ge_ hg HB; have GE373 := ge_ hg HB; replace HB := bq_ HB hb; clear hb hbox hg) | ((with_reducible refine gate_callee (f := 70) rfl ?_); refine gl_ (some 7) Tryd.func70 #[.slice A1 l1.length c1] ?_; (with_reducible refine (pelorusref01_Trim.calls k _ _ l1 t374 _ ?side1 ?side2 A3.out).mono ?_); (case side1 => exact kc_ (Kd.C_below HR1.out HB.out)); (case side2 => exact HC1.out); rintro e w10 ⟨v375, rfl, ho0, hb⟩; refine ⟨_, rfl, ?_⟩; have HO376 := Aside0.mk (Kd.R_lower ho0 (below_size (bw_ HB.out))); replace BK373 := kq_ BK373 hb; replace HB := bq_ HB hb; (try clear hb); (try clear hb2); (try clear hk); (try clear hi); (try clear ho0); obtain ⟨Ao11, co11, eo11⟩ := Kd.R_slice HO376.out; subst eo11; obtain ⟨hcz12_0, hcz12_1, hfz12_0, hfz12_1⟩ := c2_ BK373))
  refine bodyPost_ret (results_cell_row rfl _ _ gb373 24 #[.bool false, .slice Ao11 t374.length co11] (0, 0) _ rfl (by refine kb_ ?_; refine bp_ #[.bool false, .slice none 0 0] 1 ?_; refine bp_ #[.bool false, .slice none 0 0] 0 ?_; exact BK373.out) Tryd.underlying24 rfl (by kernel_rfl)) rfl ?_
  exact ⟨_, rf_, by (with_reducible repeat (first | apply Kd.R_alloc | apply Kd.R_drewN | apply Kd.R_drew)); exact Kd.R_mono (Kd.R_far (p := ⟨gb373, 1, none⟩) (Kd.R_far (p := ⟨gb373, 0, none⟩) (Kd.R_types HO376.out BK373.out (by decide)) (fun _ hk => hk.2) (.bool false)) (fun _ hk => hk.2) (.slice Ao11 t374.length co11)) (fun _ hk => trivial), bw_ HB.out⟩

/-! ### pelorusref03_even: function 69 -/
set_option maxHeartbeats 8000000 in
set_option maxRecDepth 100000 in
theorem pelorusref03_even.calls (A0 : Option Addr) (c0 : Nat) (l0 : List Int) (r : Bool) (w : World) (hr0 : Kd.C (Kd.int .u32) w A0 l0.length l0) (hc0 : l0.length ≤ c0) (h : pelorusref03_even.f l0 = some r) :
  Calls Tryd.prog 69 #[.slice A0 l0.length c0] w fun e w' => e = .returned (.bool r) ∧ Drawn0 w w' := by
 have HR0 := Aside0.mk hr0
 have HC0 := Aside0.mk hc0
 clear hr0 hc0
 have H : (if (l0.length : Int) > 0 then (if 0 < (l0.length : Int) then (some ((Int.tmod (rd l0 0) 2) == 0)) else (none)) else (some false)) = some r := h
 clear h
 by_cases c2 : (l0.length : Int) > 0
 ·rw [if_pos c2] at H
  have c2b0 : decide (0 < (l0.length : Int)) = true := decide_eq_true c2
  have c2b1 : decide (0 < l0.length) = true := decide_eq_true (by omega)
  clear c2
  by_cases c3 : 0 < (l0.length : Int)
  ·rw [if_pos c3] at H
   have c3b0 : decide (0 < (l0.length : Int)) = true := decide_eq_true c3
   have c3b1 : decide (0 < l0.length) = true := decide_eq_true (by omega)
   clear c3
   obtain rfl := Option.some.inj H
   have p377 : 0 ≤ (0 : Int) := (by omega)
   have q377 : 0 < (l0.length : Int) := of_decide_eq_true (by first | (with_reducible assumption) | assumption)
   obtain ⟨ad377, e377, hx377_0⟩ := Kd.at_int HR0.out 0 p377 q377
   cases e377
   have qi377 : (0 < l0.length) = True := eq_true (by omega)
   (try rw [show ((0 : Int)).toNat = 0 from rfl] at hx377_0)
   (try rw [Addr.add_zero'] at hx377_0)
   replace p377 := eq_true p377
   replace q377 := eq_true q377
   go_enter Tryd.func69, Tryd.ntmps69
   go_wp2
   go_ret
   exact ⟨by first | rfl | (simp; done) | (simp [*]; done), by repeat (first | exact Drawn0.refl _ | apply Drawn0.step)⟩
  ·rw [if_neg c3] at H
   exact absurd H (by simp)
 ·rw [if_neg c2] at H
  have c2b0 : decide (0 < (l0.length : Int)) = false := decide_eq_false c2
  have c2b1 : decide (0 < l0.length) = false := decide_eq_false (by omega)
  clear c2
  obtain rfl := Option.some.inj H
  go_enter Tryd.func69, Tryd.ntmps69
  go_wp2
  go_ret
  exact ⟨by first | rfl | (simp; done) | (simp [*]; done), by repeat (first | exact Drawn0.refl _ | apply Drawn0.step)⟩

/-! ### pelorusref03_Make: function 44 -/
set_option maxHeartbeats 8000000 in
set_option maxRecDepth 100000 in
theorem pelorusref03_Make.calls (k : Nat) (a0_0 : Bool) (A0_1 : Option Addr) (c0_1 : Nat) (l0_1 : List Int) (a1 : Int) (r1 : Bool) (r2 : List Int) (r3 : Int) (w : World) (hr0_1 : Kd.C (Kd.int .u32) w A0_1 l0_1.length l0_1) (hc0_1 : l0_1.length ≤ c0_1) (h : pelorusref03_Make.f k a0_0 l0_1 a1 = some (r1, r2, r3)) :
  Calls Tryd.prog 44 #[.agg #[.bool a0_0, .slice A0_1 l0_1.length c0_1], .int .i64 a1] w fun e w' => ∃ v1_ : Value, e = .returned (.agg #[.bool r1, v1_, .int .i64 r3]) ∧ Kd.R (Kd.int .u32) 53 w' w.heap.size (fun _ => True) v1_ r2 ∧ Below w.heap.size w w' := by
 have hu24 := Tryd.underlying24
 have hu26 := Tryd.underlying26
 have HR0_1 := Aside0.mk hr0_1
 have HC0_1 := Aside0.mk hc0_1
 clear hr0_1 hc0_1
 have HB := Aside0.mk (Below.refl w.heap.size w)
 have H : ((pelorusref02_Make.f k a0_0 l0_1).bind fun bt380 => (if (bt380.2.length : Int) = 0 then (pelorusref03_Make.j0 k a1 true bt380.1 bt380.2) else (if a1 < (-4194304) then (pelorusref03_Make.j0 k a1 true bt380.1 bt380.2) else (pelorusref03_Make.j0 k a1 (decide (a1 > 4194304)) bt380.1 bt380.2)))) = some (r1, r2, r3) := h
 clear h
 replace H := Option.bind_eq_some_iff.mp H
 obtain ⟨⟨t380, t381⟩, A30, H⟩ := H
 (try dsimp only at H)
 have A3 := Aside0.mk A30
 clear A30
 have HC4 := Aside0.mk H
 clear H
 go_enter Tryd.func44, Tryd.ntmps44
 go_upto_region 2 with (first | ((with_reducible refine gate_dst (N := 2) rfl ?_); refine bx_ 2 #[.bool a0_0, .slice A0_1 l0_1.length c0_1] 24 ?_; intro gb378 hg w5 hbox hb; have BK378 := Aside0.mk (hbox); have GW378 := ge_ hg HB; have GE378 := ge_ hg HB; replace HB := bq_ HB hb; clear hb hbox hg) | ((with_reducible refine gate_dst (N := 4) rfl ?_); refine bx_ 4 #[.bool false, .slice none 0 0, .int .i64 0] 26 ?_; intro gb379 hg w6 hbox hb; have BK379 := Aside0.mk (hbox); have GW379 := ge_ hg HB; have GE379 := ge_ hg HB; have NB378_379 := nb_ hg BK378; have NB379_378 := nc_ hg BK378; replace BK378 := kq_ BK378 hb; replace HB := bq_ HB hb; clear hb hbox hg; have hnb7 := NB378_379.out; have hnc7 := NB379_378.out; obtain ⟨hcz8_0, hcz8_1, hfz8_0, hfz8_1⟩ := c2_ BK378) | ((with_reducible refine gate_callee (f := 60) rfl ?_); refine gl_ (some 12) Tryd.func60 #[.bool a0_0, .slice A0_1 l0_1.length c0_1] ?_; (with_reducible refine (pelorusref02_Make.calls k a0_0 _ _ l0_1 t380 t381 _ ?side1 ?side2 A3.out).mono ?_); (case side1 => exact kc_ (Kd.C_below HR0_1.out HB.out)); (case side2 => exact HC0_1.out); rintro e w9 ⟨v382, rfl, ho0, hb⟩; refine ⟨_, rfl, ?_⟩; have HO383 := Aside0.mk (Kd.R_lower ho0 (below_size (bw_ HB.out))); replace BK378 := kq_ BK378 hb; replace BK379 := kq_ BK379 hb; replace HB := bq_ HB hb; (try clear hb); (try clear hb2); (try clear hk); (try clear hi); (try clear ho0)) | ((with_reducible refine gate_dst (N := 5) rfl ?_); refine bx_ 5 #[.bool false, .slice none 0 0] 24 ?_; intro gb384 hg w10 hbox hb; have BK384 := Aside0.mk (hbox); have GW384 := ge_ hg HB; have GE384 := ge_ hg HB; have NB378_384 := nb_ hg BK378; have NB384_378 := nc_ hg BK378; have NB379_384 := nb_ hg BK379; have NB384_379 := nc_ hg BK379; replace HO383 := Aside0.mk (Kd.R_below (kr_ HO383.out) hb); replace BK378 := kq_ BK378 hb; replace BK379 := kq_ BK379 hb; replace HB := bq_ HB hb; clear hb hbox hg; have hnb11 := NB384_378.out; have hnc11 := NB378_384.out; have hnb12 := NB384_379.out; have hnc12 := NB379_384.out; obtain ⟨hcz13_0, hcz13_1, hfz13_0, hfz13_1⟩ := c2_ BK384; obtain ⟨Ao14, co14, eo14⟩ := Kd.R_slice HO383.out; subst eo14))
 (try simp only [Act.put, List.setIfInBounds_toArray, List.set_cons_zero, List.set_cons_succ])
 go_cut [24] (fun v24 wc => ∃ (kq : Nat) (x24_3 : Bool), v24 = .bool x24_3 ∧ Aside0 (pelorusref03_Make.j0 kq a1 x24_3 t380 t381 = some (r1, r2, r3)) ∧ Aside0 (kq ≤ k) ∧ Aside0 (Kd.R (Kd.int .u32) 53 wc w.heap.size (fun _ => True) (.slice Ao14 t381.length co14) t381) ∧ Aside0 (wc.heap[gb378]? = some (.cells #[.bool a0_0, (.slice A0_1 l0_1.length c0_1)] 24 (0, 0))) ∧ Aside0 (wc.heap[gb379]? = some (.cells #[.bool false, (.slice none 0 0), .int .i64 0] 26 (0, 0))) ∧ Aside0 (wc.heap[gb384]? = some (.cells #[.bool t380, (.slice Ao14 t381.length co14)] 24 (0, 0))) ∧ Aside0 (Below w.heap.size w wc))
 case first =>
  have H := HC4.out
  clear HC4
  by_cases c15 : (t381.length : Int) = 0
  ·rw [if_pos c15] at H
   have c15b0 : ((t381.length : Int) == 0) = true := beq_iff_eq.mpr c15
   have c15b1 : ((t381.length : Int) != 0) = false := bne_eq_false_iff_eq.mpr c15
   clear c15
   (first | rw [c15b0] | (simp only [i64_w, i32_w]; rw [c15b0]) | skip)
   have H' := Aside0.mk H
   clear H
   have hnb16 := NB384_378.out
   have hnc16 := NB378_384.out
   have hnb17 := NB384_379.out
   have hnc17 := NB379_384.out
   obtain ⟨hcz18_0, hcz18_1, hfz18_0, hfz18_1⟩ := c2_ BK384
   go_wp2
   go_meet
   case rel => exact ⟨_, (true), (by first | rfl | (simp; done) | (simp [*]; done)), H', ⟨by first | omega | exact Nat.le_refl _⟩, ⟨by (with_reducible repeat (first | apply Kd.R_alloc | apply Kd.R_drewN | apply Kd.R_drew)); exact Kd.R_mono (Kd.R_far (p := ⟨gb384, 1, none⟩) (Kd.R_far (p := ⟨gb384, 0, none⟩) (Kd.R_types HO383.out BK384.out (by decide)) (fun _ hk => hk.2) (.bool t380)) (fun _ hk => hk.2) (.slice Ao14 t381.length co14)) (fun _ hk => trivial)⟩, ⟨by refine kb_ ?_; refine bf_ NB378_384 ?_; refine bf_ NB378_384 ?_; exact BK378.out⟩, ⟨by refine kb_ ?_; refine bf_ NB379_384 ?_; refine bf_ NB379_384 ?_; exact BK379.out⟩, ⟨by refine kb_ ?_; refine bp_ #[.bool t380, .slice none 0 0] 1 ?_; refine bp_ #[.bool false, .slice none 0 0] 0 ?_; exact BK384.out⟩, ⟨bw_ HB.out⟩⟩
  ·rw [if_neg c15] at H
   have c15b0 : ((t381.length : Int) == 0) = false := beq_eq_false_iff_ne.mpr c15
   have c15b1 : ((t381.length : Int) != 0) = true := bne_iff_ne.mpr c15
   have c15b2 : ¬ (t381 = []) := fun h_ => c15 (by rw [h_]; rfl)
   (first | rw [c15b0] | (simp only [i64_w, i32_w]; rw [c15b0]) | skip)
   by_cases c19 : a1 < (-4194304)
   ·rw [if_pos c19] at H
    have c19b0 : decide (a1 < (-4194304)) = true := decide_eq_true c19
    clear c19
    have H' := Aside0.mk H
    clear H
    have hnb20 := NB384_378.out
    have hnc20 := NB378_384.out
    have hnb21 := NB384_379.out
    have hnc21 := NB379_384.out
    obtain ⟨hcz22_0, hcz22_1, hfz22_0, hfz22_1⟩ := c2_ BK384
    go_wp2
    go_meet
    case rel => exact ⟨_, (true), (by first | rfl | (simp; done) | (simp [*]; done)), H', ⟨by first | omega | exact Nat.le_refl _⟩, ⟨by (with_reducible repeat (first | apply Kd.R_alloc | apply Kd.R_drewN | apply Kd.R_drew)); exact Kd.R_mono (Kd.R_far (p := ⟨gb384, 1, none⟩) (Kd.R_far (p := ⟨gb384, 0, none⟩) (Kd.R_types HO383.out BK384.out (by decide)) (fun _ hk => hk.2) (.bool t380)) (fun _ hk => hk.2) (.slice Ao14 t381.length co14)) (fun _ hk => trivial)⟩, ⟨by refine kb_ ?_; refine bf_ NB378_384 ?_; refine bf_ NB378_384 ?_; exact BK378.out⟩, ⟨by refine kb_ ?_; refine bf_ NB379_384 ?_; refine bf_ NB379_384 ?_; exact BK379.out⟩, ⟨by refine kb_ ?_; refine bp_ #[.bool t380, .slice none 0 0] 1 ?_; refine bp_ #[.bool false, .slice none 0 0] 0 ?_; exact BK384.out⟩, ⟨bw_ HB.out⟩⟩
   ·rw [if_neg c19] at H
    have c19b0 : decide (a1 < (-4194304)) = false := decide_eq_false c19
    clear c19
    have H' := Aside0.mk H
    clear H
    have hnb23 := NB384_378.out
    have hnc23 := NB378_384.out
    have hnb24 := NB384_379.out
    have hnc24 := NB379_384.out
    obtain ⟨hcz25_0, hcz25_1, hfz25_0, hfz25_1⟩ := c2_ BK384
    go_wp2
    go_meet
    case rel => exact ⟨_, (decide (a1 > 4194304)), (by first | rfl | (simp; done) | (simp [*]; done)), H', ⟨by first | omega | exact Nat.le_refl _⟩, ⟨by (with_reducible repeat (first | apply Kd.R_alloc | apply Kd.R_drewN | apply Kd.R_drew)); exact Kd.R_mono (Kd.R_far (p := ⟨gb384, 1, none⟩) (Kd.R_far (p := ⟨gb384, 0, none⟩) (Kd.R_types HO383.out BK384.out (by decide)) (fun _ hk => hk.2) (.bool t380)) (fun _ hk => hk.2) (.slice Ao14 t381.length co14)) (fun _ hk => trivial)⟩, ⟨by refine kb_ ?_; refine bf_ NB378_384 ?_; refine bf_ NB378_384 ?_; exact BK378.out⟩, ⟨by refine kb_ ?_; refine bf_ NB379_384 ?_; refine bf_ NB379_384 ?_; exact BK379.out⟩, ⟨by refine kb_ ?_; refine bp_ #[.bool t380, .slice none 0 0] 1 ?_; refine bp_ #[.bool false, .slice none 0 0] 0 ?_; exact BK384.out⟩, ⟨bw_ HB.out⟩⟩
 case rest =>
  clear HC4
  try clear c1
  try clear c2
  try clear p2
  try clear c4
  try clear c6
  try clear c7
  try clear c11
  try clear c12
  try clear c15
  try clear c15b0
  try clear c15b1
  try clear c15b2
  try clear c16
  try clear c17
  try clear c19
  try clear c19b0
  try clear c20
  try clear c21
  try clear c23
  try clear c24
  try clear hcz13_0 hcz13_1
  try clear hcz18_0 hcz18_1
  try clear hcz22_0 hcz22_1
  try clear hcz25_0 hcz25_1
  try clear hcz8_0 hcz8_1
  try clear hfz13_0 hfz13_1
  try clear hfz18_0 hfz18_1
  try clear hfz22_0 hfz22_1
  try clear hfz25_0 hfz25_1
  try clear hfz8_0 hfz8_1
  obtain ⟨kq, x24_3, rfl, HA, HJ3, HO_385001, BK378, BK379, BK384, HB⟩ := hcut
  cases kq with
  | zero => exact absurd HA.out (by simp [pelorusref03_Make.j0])
  | succ kj3 =>
   have H := HA.out
   clear HA
   simp only [pelorusref03_Make.j0] at H
   by_cases c26 : x24_3 = true
   ·subst c26
    have H1 : (some (false, ([] : List Int), 0)) = some (r1, r2, r3) := by rw [if_pos rfl] at H; exact H
    clear H
    have H := H1
    clear H1
    simp only [Option.some.injEq, Prod.mk.injEq] at H
    obtain ⟨rfl, rfl, rfl⟩ := H
    have hnb27 := NB379_378.out
    have hnc27 := NB378_379.out
    have hnb28 := NB379_384.out
    have hnc28 := NB384_379.out
    obtain ⟨hcz29_0, hcz29_1, hcz29_2, hfz29_0, hfz29_1, hfz29_2⟩ := c3_ BK379
    go_wp2
    refine bodyPost_ret (results_cell_row rfl _ _ gb379 26 #[.bool false, .slice none 0 0, .int .i64 0] (0, 0) _ rfl (by refine kb_ ?_; refine bp_ #[.bool false, .slice none 0 0, .int .i64 0] 2 ?_; refine bp_ #[.bool false, .slice none 0 0, .int .i64 0] 1 ?_; refine bp_ #[.bool false, .slice none 0 0, .int .i64 0] 0 ?_; exact BK379.out) Tryd.underlying26 rfl (by kernel_rfl)) rfl ?_
    exact ⟨_, rf_, by first | exact Kd.R_nil _ _ _ _ _ | exact Kd.N_nil _ _ _ _ _ | exact Kd.V_nil _ _ _ _ _ | exact Kd.Q_nil _ _ _ _ _ | exact Kd.S_nil _ _ _ _ _, bw_ HB.out⟩
   ·replace c26 := Bool.eq_false_iff.mpr c26
    subst c26
    have H1 : (pelorusref03_Make.l0 kj3 a1 0 t380 t381) = some (r1, r2, r3) := by rw [if_neg (show ¬ (false = true) by decide)] at H; exact H
    clear H
    have H := H1
    clear H1
    have H' := Aside0.mk H
    clear H
    go_wp2
    go_loopg [1, 6] kj3 (fun kq v1 v6 w' => ∃ (x1_2 : Int) (x6_2 : Int) (x385000_2 : Bool) (x385001_2 : List Int) (u385001 : Value), v1 = .int .i64 x1_2 ∧ v6 = .int .i64 x6_2 ∧ Aside0 (pelorusref03_Make.l0 kq x1_2 x6_2 x385000_2 x385001_2 = some (r1, r2, r3)) ∧ Aside0 (kq ≤ kj3) ∧ Aside0 (Kd.R (Kd.int .u32) 53 w' w.heap.size (fun _ => True) u385001 x385001_2) ∧ Aside0 (w'.heap[gb378]? = some (.cells #[.bool a0_0, (.slice A0_1 l0_1.length c0_1)] 24 (0, 0))) ∧ Aside0 (w'.heap[gb379]? = some (.cells #[.bool false, (.slice none 0 0), .int .i64 0] 26 (0, 0))) ∧ Aside0 (w'.heap[gb384]? = some (.cells #[.bool x385000_2, u385001] 24 (0, 0))) ∧ Aside0 (Below w.heap.size w w'))
    case atStart => exact ⟨(a1), (0), (t380), (t381), (.slice Ao14 t381.length co14), (by first | rfl | (simp; done) | (simp [*]; done)), (by first | rfl | (simp; done) | (simp [*]; done)), H', ⟨Nat.le_refl _⟩, ⟨by (with_reducible repeat (first | apply Kd.R_alloc | apply Kd.R_drewN | apply Kd.R_drew)); exact HO_385001.out⟩, ⟨kb_ BK378.out⟩, ⟨kb_ BK379.out⟩, ⟨kb_ BK384.out⟩, ⟨bw_ HB.out⟩⟩
    case round =>
     clear H'
     try clear c1
     try clear c2
     try clear p2
     try clear c4
     try clear c6
     try clear c7
     try clear c11
     try clear c12
     try clear c15
     try clear c15b0
     try clear c15b1
     try clear c15b2
     try clear c16
     try clear c17
     try clear c19
     try clear c19b0
     try clear c20
     try clear c21
     try clear c23
     try clear c24
     try clear c26
     try clear c27
     try clear c28
     try clear hcz13_0 hcz13_1
     try clear hcz18_0 hcz18_1
     try clear hcz22_0 hcz22_1
     try clear hcz25_0 hcz25_1
     try clear hcz29_0 hcz29_1 hcz29_2
     try clear hcz8_0 hcz8_1
     try clear hfz13_0 hfz13_1
     try clear hfz18_0 hfz18_1
     try clear hfz22_0 hfz22_1
     try clear hfz25_0 hfz25_1
     try clear hfz29_0 hfz29_1 hfz29_2
     try clear hfz8_0 hfz8_1
     try clear p2
     obtain ⟨x1_2, x6_2, x385000_2, x385001_2, u385001, rfl, rfl, HA, HK2, HO_385001, BK378, BK379, BK384, HB⟩ := hrel
     cases gk with
     | zero => exact absurd HA.out (by simp [pelorusref03_Make.l0])
     | succ k2 =>
      have H := HA.out
      clear HA
      simp only [pelorusref03_Make.l0] at H
      by_cases c30 : x6_2 < 4000000
      ·rw [if_pos c30] at H
       have c30b0 : decide (x6_2 < 4000000) = true := decide_eq_true c30
       clear c30
       replace H := Option.bind_eq_some_iff.mp H
       obtain ⟨t385, A310, H⟩ := H
       (try dsimp only at H)
       have A31 := Aside0.mk A310
       clear A310
       by_cases c32 : t385 = true
       ·subst c32
        have H1 : ((pelorusref01_Shr.f k2 x385001_2 1).bind fun t386 => (pelorusref03_Make.l0 k2 (wrap64 (x1_2 + 1)) (wrap64 (x6_2 + 1)) x385000_2 t386)) = some (r1, r2, r3) := by rw [if_pos rfl] at H; exact H
        clear H
        have H := H1
        clear H1
        replace H := Option.bind_eq_some_iff.mp H
        obtain ⟨t386, A330, H⟩ := H
        (try dsimp only at H)
        have A33 := Aside0.mk A330
        clear A330
        have H' := Aside0.mk H
        clear H
        have hnb34 := NB384_378.out
        have hnc34 := NB378_384.out
        have hnb35 := NB384_379.out
        have hnc35 := NB379_384.out
        obtain ⟨hcz36_0, hcz36_1, hfz36_0, hfz36_1⟩ := c2_ BK384
        obtain ⟨Ao37, co37, eo37⟩ := Kd.R_slice HO_385001.out
        subst eo37
        try go_wp2_with (first | ((with_reducible refine gate_callee (f := 69) rfl ?_); refine gl_ (some 32) Tryd.func69 #[.slice Ao37 x385001_2.length co37] ?_; (with_reducible refine (pelorusref03_even.calls _ _ x385001_2 true _ ?side1 ?side2 A31.out).mono ?_); (case side1 => exact kc_ (Kd.R_reads' HO_385001.out).2.2); (case side2 => exact (Kd.R_reads' HO_385001.out).2.1); rintro e w' ⟨rfl, ⟨nd, rfl⟩⟩; refine ⟨_, rfl, ?_⟩; (try (rw [drewN_self wr]; generalize hq_ : World.drewN wr _ = wr; have n0_ : Aside0 (Kd.R (Kd.int .u32) 53 wr w.heap.size (fun _ => True) (.slice Ao37 x385001_2.length co37) x385001_2) := ⟨by rw [← hq_]; exact (kr_ HO_385001.out)⟩; have n1_ : Aside0 (wr.heap[gb378]? = some (.cells #[.bool a0_0, .slice A0_1 l0_1.length c0_1] 24 (0, 0))) := ⟨by rw [← hq_]; exact (kb_ BK378.out)⟩; have n2_ : Aside0 (wr.heap[gb379]? = some (.cells #[.bool false, .slice none 0 0, .int .i64 0] 26 (0, 0))) := ⟨by rw [← hq_]; exact (kb_ BK379.out)⟩; have n3_ : Aside0 (wr.heap[gb384]? = some (.cells #[.bool x385000_2, .slice Ao37 x385001_2.length co37] 24 (0, 0))) := ⟨by rw [← hq_]; exact (kb_ BK384.out)⟩; have n4_ : Aside0 (Below w.heap.size w wr) := ⟨by rw [← hq_]; exact (bw_ HB.out)⟩; clear HO_385001 BK378 BK379 BK384 HB hq_; have HO_385001 := n0_; have BK378 := n1_; have BK379 := n2_; have BK384 := n3_; have HB := n4_; clear n0_ n1_ n2_ n3_ n4_)); (try (obtain ⟨hcz36_0, hcz36_1, hfz36_0, hfz36_1⟩ := c2_ BK384))))
        replace HO_385001 := Aside0.mk (Kd.R_drew HO_385001.out)
        replace BK378 := Aside0.mk (blk_drew BK378.out)
        replace BK379 := Aside0.mk (blk_drew BK379.out)
        replace BK384 := Aside0.mk (blk_drew BK384.out)
        replace HB := Aside0.mk (below_drew1 HB.out)
        refine start_ (n := 7) (S := fun w' => w'.cell? ⟨gb384, 0, none⟩ = some (.bool x385000_2) ∧ w'.cell? ⟨gb384, 1, none⟩ = some (.slice Ao37 x385001_2.length co37)) (ds := [6]) #[false, false, false, false, false, false, false] (by kernel_rfl) rfl rfl ⟨(blk_cell BK384.out 0).trans rfl, (blk_cell BK384.out 1).trans rfl⟩ (fun hHeld => ?_)
        generalize wr.drew = w38 at HO_385001 BK378 BK379 BK384 HB hHeld ⊢
        refine pure_ (i := 0) (N := some 35) (v := ?_) (a' := ?_) #[true, false, false, false, false, false, false] rfl rfl (by kernel_rfl) (fun _ _ _ h => h) (Or.inl ⟨by rfl, ?_⟩) ?_ ?_
        rotate_left
        ·intro w'
         go_simp
         with_reducible rfl
        rotate_left
        ·exact pt_
        refine pure_ (i := 2) (N := some 37) (v := ?_) (a' := ?_) #[true, false, true, false, false, false, false] rfl rfl (by kernel_rfl) (fun _ _ _ h => h) (Or.inl ⟨by rfl, ?_⟩) ?_ ?_
        rotate_left
        ·intro w'
         go_simp
         with_reducible rfl
        rotate_left
        ·exact pt_
        refine take_ (i := 1) (N := some 36) (v := ?_) (a' := ?_) #[true, true, true, false, false, false, false] rfl rfl (by kernel_rfl) (fun _ _ _ h => h) (Or.inl ⟨by rfl, ?_⟩) hHeld ?_ ?_
        rotate_left
        ·rintro w' ⟨s0, s1⟩
         go_simp
         with_reducible rfl
        rotate_left
        ·exact pt_
        refine take_ (i := 3) (N := some 38) (v := ?_) (a' := ?_) #[true, true, true, true, false, false, false] rfl rfl (by kernel_rfl) (fun _ _ _ h => h) (Or.inl ⟨by rfl, ?_⟩) hHeld ?_ ?_
        rotate_left
        ·rintro w' ⟨s0, s1⟩
         go_simp
         with_reducible rfl
        rotate_left
        ·exact pt_
        refine one_ (i := 4) (N := some 39) #[true, true, true, true, true, false, false] rfl rfl (by kernel_rfl) (by decide) (fun K hK => ?_)
        refine gs_ Tryd.func49 #[.slice Ao37 x385001_2.length co37, .int .i64 1] ?_
        with_reducible refine (pelorusref01_Shr.calls k2 _ _ x385001_2 1 t386 _ ?side1 ?side2 A33.out).mono ?_
        (case side1 => exact kc_ (Kd.R_reads' HO_385001.out).2.2)
        (case side2 => exact (Kd.R_reads' HO_385001.out).2.1)
        rintro e w39 ⟨v387, rfl, ho0, hb⟩
        refine ⟨_, rfl, ?_⟩
        have HO388 := Aside0.mk (Kd.R_lower (Kd.R_new' ho0 (Kd.R_lt (kr_ HO_385001.out))) (below_size (bw_ HB.out)))
        replace HO_385001 := Aside0.mk (Kd.R_elder' (kr_ HO_385001.out) (Kd.R_base ho0) hb)
        replace BK378 := kq_ BK378 hb
        replace BK379 := kq_ BK379 hb
        replace BK384 := kq_ BK384 hb
        replace HB := bq_ HB hb
        (try clear hb)
        (try clear hb2)
        (try clear hk)
        (try clear hi)
        (try clear ho0)
        obtain ⟨Ao40, co40, eo40⟩ := Kd.R_slice HO388.out
        (first | subst eo40 | (injection eo40 with f1_ f2_ f3_; have f4_ := f1_.symm; have f5_ := f3_.symm; clear f1_ f2_ f3_; subst f4_; subst f5_))
        refine hK.out _ _ ⟨(blk_cell BK384.out 0).trans rfl, (blk_cell BK384.out 1).trans rfl⟩ (fun hHeld => ?_)
        clear hK K
        refine norm_ (a' := ?_) ?_ ?_
        rotate_left
        ·show Act.put _ (some 39) _ = _
         exact pt_
        refine pure_ (i := 5) (N := some 40) (v := ?_) (a' := ?_) #[true, true, true, true, true, true, false] rfl rfl (by kernel_rfl) (fun _ _ _ h => h) (Or.inl ⟨by rfl, ?_⟩) ?_ ?_
        rotate_left
        ·intro w'
         go_simp
         with_reducible rfl
        rotate_left
        ·exact pt_
        refine last_ (i := 6) (N := none) #[true, true, true, true, true, true, true] rfl rfl (by kernel_rfl) (by decide) (fun K hK => ?_)
        have hs41 : w39.cell? ⟨gb384, 0, none⟩ = some (.bool x385000_2) := (blk_cell BK384.out 0).trans rfl
        have hfs41 := fz_ BK384 0
        have hns41_0 := NB378_384.out
        have hns41_1 := NB379_384.out
        have hms41_0 := NB384_378.out
        have hms41_1 := NB384_379.out
        have hs42 : w39.cell? ⟨gb384, 1, none⟩ = some (.slice Ao37 x385001_2.length co37) := (blk_cell BK384.out 1).trans rfl
        have hfs42 := fz_ BK384 1
        have hns42_0 := NB378_384.out
        have hns42_1 := NB379_384.out
        have hms42_0 := NB384_378.out
        have hms42_1 := NB384_379.out
        refine skip_ (w1 := ?_) (by rfl) rfl ?_ ?_
        rotate_left
        ·go_simp
         rfl
        refine hK.out _ _ ?_
        clear hK K
        refine done_ (by kernel_rfl) ?_
        try go_wp2
        go_roundg k2
        case measure => have := HJ3.out; have := HK2.out; omega
        case rel => exact ⟨(wrap64 (x1_2 + 1)), (wrap64 (x6_2 + 1)), (x385000_2), (t386), (.slice Ao40 t386.length co40), (by first | rfl | (simp; done) | (simp [*]; done)), (by first | rfl | (simp; done) | (simp [*]; done)), H', ⟨by have := HJ3.out; have := HK2.out; omega⟩, ⟨by (with_reducible repeat (first | apply Kd.R_alloc | apply Kd.R_drewN | apply Kd.R_drew)); exact Kd.R_mono (Kd.R_far (p := ⟨gb384, 1, none⟩) (Kd.R_far (p := ⟨gb384, 0, none⟩) (Kd.R_types HO388.out BK384.out (by decide)) (fun _ hk => hk.2) (.bool x385000_2)) (fun _ hk => hk.2) (.slice Ao40 t386.length co40)) (fun _ hk => trivial)⟩, ⟨by refine kb_ ?_; refine bf_ NB378_384 ?_; refine bf_ NB378_384 ?_; exact BK378.out⟩, ⟨by refine kb_ ?_; refine bf_ NB379_384 ?_; refine bf_ NB379_384 ?_; exact BK379.out⟩, ⟨by refine kb_ ?_; refine bp_ #[.bool x385000_2, .slice Ao37 x385001_2.length co37] 1 ?_; refine bp_ #[.bool x385000_2, .slice Ao37 x385001_2.length co37] 0 ?_; exact BK384.out⟩, ⟨bw_ HB.out⟩⟩
       ·replace c32 := Bool.eq_false_iff.mpr c32
        subst c32
        have H1 : (if x1_2 > 4194304 then (some (false, ([] : List Int), 0)) else (some (x385000_2, x385001_2, x1_2))) = some (r1, r2, r3) := by rw [if_neg (show ¬ (false = true) by decide)] at H; exact H
        clear H
        have H := H1
        clear H1
        by_cases c43 : x1_2 > 4194304
        ·rw [if_pos c43] at H
         have c43b0 : decide (4194304 < x1_2) = true := decide_eq_true c43
         clear c43
         simp only [Option.some.injEq, Prod.mk.injEq] at H
         obtain ⟨rfl, rfl, rfl⟩ := H
         have hnb44 := NB384_378.out
         have hnc44 := NB378_384.out
         have hnb45 := NB384_379.out
         have hnc45 := NB379_384.out
         obtain ⟨hcz46_0, hcz46_1, hfz46_0, hfz46_1⟩ := c2_ BK384
         obtain ⟨Ao47, co47, eo47⟩ := Kd.R_slice HO_385001.out
         subst eo47
         go_wp2_with (first | ((with_reducible refine gate_callee (f := 69) rfl ?_); refine gl_ (some 32) Tryd.func69 #[.slice Ao47 x385001_2.length co47] ?_; (with_reducible refine (pelorusref03_even.calls _ _ x385001_2 false _ ?side1 ?side2 A31.out).mono ?_); (case side1 => exact kc_ (Kd.R_reads' HO_385001.out).2.2); (case side2 => exact (Kd.R_reads' HO_385001.out).2.1); rintro e w' ⟨rfl, ⟨nd, rfl⟩⟩; refine ⟨_, rfl, ?_⟩; (try (rw [drewN_self wr]; generalize hq_ : World.drewN wr _ = wr; have n0_ : Aside0 (Kd.R (Kd.int .u32) 53 wr w.heap.size (fun _ => True) (.slice Ao47 x385001_2.length co47) x385001_2) := ⟨by rw [← hq_]; exact (kr_ HO_385001.out)⟩; have n1_ : Aside0 (wr.heap[gb378]? = some (.cells #[.bool a0_0, .slice A0_1 l0_1.length c0_1] 24 (0, 0))) := ⟨by rw [← hq_]; exact (kb_ BK378.out)⟩; have n2_ : Aside0 (wr.heap[gb379]? = some (.cells #[.bool false, .slice none 0 0, .int .i64 0] 26 (0, 0))) := ⟨by rw [← hq_]; exact (kb_ BK379.out)⟩; have n3_ : Aside0 (wr.heap[gb384]? = some (.cells #[.bool x385000_2, .slice Ao47 x385001_2.length co47] 24 (0, 0))) := ⟨by rw [← hq_]; exact (kb_ BK384.out)⟩; have n4_ : Aside0 (Below w.heap.size w wr) := ⟨by rw [← hq_]; exact (bw_ HB.out)⟩; clear HO_385001 BK378 BK379 BK384 HB hq_; have HO_385001 := n0_; have BK378 := n1_; have BK379 := n2_; have BK384 := n3_; have HB := n4_; clear n0_ n1_ n2_ n3_ n4_)); (try (obtain ⟨hcz46_0, hcz46_1, hfz46_0, hfz46_1⟩ := c2_ BK384)); have hnb48 := NB379_378.out; have hnc48 := NB378_379.out; obtain ⟨hcz49_0, hcz49_1, hcz49_2, hfz49_0, hfz49_1, hfz49_2⟩ := c3_ BK379))
         refine bodyPost_ret (results_cell_row rfl _ _ gb379 26 #[.bool false, .slice none 0 0, .int .i64 0] (0, 0) _ rfl (by refine kb_ ?_; refine bp_ #[.bool false, .slice none 0 0, .int .i64 0] 2 ?_; refine bp_ #[.bool false, .slice none 0 0, .int .i64 0] 1 ?_; refine bp_ #[.bool false, .slice none 0 0, .int .i64 0] 0 ?_; exact BK379.out) Tryd.underlying26 rfl (by kernel_rfl)) rfl ?_
         exact ⟨_, rf_, by first | exact Kd.R_nil _ _ _ _ _ | exact Kd.N_nil _ _ _ _ _ | exact Kd.V_nil _ _ _ _ _ | exact Kd.Q_nil _ _ _ _ _ | exact Kd.S_nil _ _ _ _ _, bw_ HB.out⟩
        ·rw [if_neg c43] at H
         have c43b0 : decide (4194304 < x1_2) = false := decide_eq_false c43
         clear c43
         simp only [Option.some.injEq, Prod.mk.injEq] at H
         obtain ⟨rfl, rfl, rfl⟩ := H
         have hnb50 := NB384_378.out
         have hnc50 := NB378_384.out
         have hnb51 := NB384_379.out
         have hnc51 := NB379_384.out
         obtain ⟨hcz52_0, hcz52_1, hfz52_0, hfz52_1⟩ := c2_ BK384
         obtain ⟨Ao53, co53, eo53⟩ := Kd.R_slice HO_385001.out
         subst eo53
         go_wp2_with (first | ((with_reducible refine gate_callee (f := 69) rfl ?_); refine gl_ (some 32) Tryd.func69 #[.slice Ao53 x385001_2.length co53] ?_; (with_reducible refine (pelorusref03_even.calls _ _ x385001_2 false _ ?side1 ?side2 A31.out).mono ?_); (case side1 => exact kc_ (Kd.R_reads' HO_385001.out).2.2); (case side2 => exact (Kd.R_reads' HO_385001.out).2.1); rintro e w' ⟨rfl, ⟨nd, rfl⟩⟩; refine ⟨_, rfl, ?_⟩; (try (rw [drewN_self wr]; generalize hq_ : World.drewN wr _ = wr; have n0_ : Aside0 (Kd.R (Kd.int .u32) 53 wr w.heap.size (fun _ => True) (.slice Ao53 x385001_2.length co53) x385001_2) := ⟨by rw [← hq_]; exact (kr_ HO_385001.out)⟩; have n1_ : Aside0 (wr.heap[gb378]? = some (.cells #[.bool a0_0, .slice A0_1 l0_1.length c0_1] 24 (0, 0))) := ⟨by rw [← hq_]; exact (kb_ BK378.out)⟩; have n2_ : Aside0 (wr.heap[gb379]? = some (.cells #[.bool false, .slice none 0 0, .int .i64 0] 26 (0, 0))) := ⟨by rw [← hq_]; exact (kb_ BK379.out)⟩; have n3_ : Aside0 (wr.heap[gb384]? = some (.cells #[.bool x385000_2, .slice Ao53 x385001_2.length co53] 24 (0, 0))) := ⟨by rw [← hq_]; exact (kb_ BK384.out)⟩; have n4_ : Aside0 (Below w.heap.size w wr) := ⟨by rw [← hq_]; exact (bw_ HB.out)⟩; clear HO_385001 BK378 BK379 BK384 HB hq_; have HO_385001 := n0_; have BK378 := n1_; have BK379 := n2_; have BK384 := n3_; have HB := n4_; clear n0_ n1_ n2_ n3_ n4_)); (try (obtain ⟨hcz52_0, hcz52_1, hfz52_0, hfz52_1⟩ := c2_ BK384)); have hnb54 := NB379_378.out; have hnc54 := NB378_379.out; obtain ⟨hcz55_0, hcz55_1, hcz55_2, hfz55_0, hfz55_1, hfz55_2⟩ := c3_ BK379))
         refine bodyPost_ret (results_cell_row rfl _ _ gb379 26 #[.bool x385000_2, .slice Ao53 x385001_2.length co53, .int .i64 x1_2] (0, 0) _ rfl (by refine kb_ ?_; refine bp_ #[.bool x385000_2, .slice Ao53 x385001_2.length co53, .int .i64 0] 2 ?_; refine bp_ #[.bool x385000_2, .slice none 0 0, .int .i64 0] 1 ?_; refine bp_ #[.bool false, .slice none 0 0, .int .i64 0] 0 ?_; exact BK379.out) Tryd.underlying26 rfl (by kernel_rfl)) rfl ?_
         exact ⟨_, rf_, by (with_reducible repeat (first | apply Kd.R_alloc | apply Kd.R_drewN | apply Kd.R_drew)); exact Kd.R_mono (Kd.R_far (p := ⟨gb379, 2, none⟩) (Kd.R_far (p := ⟨gb379, 1, none⟩) (Kd.R_far (p := ⟨gb379, 0, none⟩) (Kd.R_types HO_385001.out BK379.out (by decide)) (fun _ hk => hk.2) (.bool x385000_2)) (fun _ hk => hk.2) (.slice Ao53 x385001_2.length co53)) (fun _ hk => hk.2) (.int .i64 x1_2)) (fun _ hk => trivial), bw_ HB.out⟩
      ·rw [if_neg c30] at H
       have c30b0 : decide (x6_2 < 4000000) = false := decide_eq_false c30
       clear c30
       by_cases c56 : x1_2 > 4194304
       ·rw [if_pos c56] at H
        have c56b0 : decide (4194304 < x1_2) = true := decide_eq_true c56
        clear c56
        simp only [Option.some.injEq, Prod.mk.injEq] at H
        obtain ⟨rfl, rfl, rfl⟩ := H
        have hnb57 := NB379_378.out
        have hnc57 := NB378_379.out
        have hnb58 := NB379_384.out
        have hnc58 := NB384_379.out
        obtain ⟨hcz59_0, hcz59_1, hcz59_2, hfz59_0, hfz59_1, hfz59_2⟩ := c3_ BK379
        go_wp2
        refine bodyPost_ret (results_cell_row rfl _ _ gb379 26 #[.bool false, .slice none 0 0, .int .i64 0] (0, 0) _ rfl (by refine kb_ ?_; refine bp_ #[.bool false, .slice none 0 0, .int .i64 0] 2 ?_; refine bp_ #[.bool false, .slice none 0 0, .int .i64 0] 1 ?_; refine bp_ #[.bool false, .slice none 0 0, .int .i64 0] 0 ?_; exact BK379.out) Tryd.underlying26 rfl (by kernel_rfl)) rfl ?_
        exact ⟨_, rf_, by first | exact Kd.R_nil _ _ _ _ _ | exact Kd.N_nil _ _ _ _ _ | exact Kd.V_nil _ _ _ _ _ | exact Kd.Q_nil _ _ _ _ _ | exact Kd.S_nil _ _ _ _ _, bw_ HB.out⟩
       ·rw [if_neg c56] at H
        have c56b0 : decide (4194304 < x1_2) = false := decide_eq_false c56
        clear c56
        simp only [Option.some.injEq, Prod.mk.injEq] at H
        obtain ⟨rfl, rfl, rfl⟩ := H
        have hnb60 := NB384_378.out
        have hnc60 := NB378_384.out
        have hnb61 := NB384_379.out
        have hnc61 := NB379_384.out
        obtain ⟨hcz62_0, hcz62_1, hfz62_0, hfz62_1⟩ := c2_ BK384
        obtain ⟨Ao63, co63, eo63⟩ := Kd.R_slice HO_385001.out
        subst eo63
        have hnb64 := NB379_378.out
        have hnc64 := NB378_379.out
        obtain ⟨hcz65_0, hcz65_1, hcz65_2, hfz65_0, hfz65_1, hfz65_2⟩ := c3_ BK379
        go_wp2
        refine bodyPost_ret (results_cell_row rfl _ _ gb379 26 #[.bool x385000_2, .slice Ao63 x385001_2.length co63, .int .i64 x1_2] (0, 0) _ rfl (by refine kb_ ?_; refine bp_ #[.bool x385000_2, .slice Ao63 x385001_2.length co63, .int .i64 0] 2 ?_; refine bp_ #[.bool x385000_2, .slice none 0 0, .int .i64 0] 1 ?_; refine bp_ #[.bool false, .slice none 0 0, .int .i64 0] 0 ?_; exact BK379.out) Tryd.underlying26 rfl (by kernel_rfl)) rfl ?_
        exact ⟨_, rf_, by (with_reducible repeat (first | apply Kd.R_alloc | apply Kd.R_drewN | apply Kd.R_drew)); exact Kd.R_mono (Kd.R_far (p := ⟨gb379, 2, none⟩) (Kd.R_far (p := ⟨gb379, 1, none⟩) (Kd.R_far (p := ⟨gb379, 0, none⟩) (Kd.R_types HO_385001.out BK379.out (by decide)) (fun _ hk => hk.2) (.bool x385000_2)) (fun _ hk => hk.2) (.slice Ao63 x385001_2.length co63)) (fun _ hk => hk.2) (.int .i64 x1_2)) (fun _ hk => trivial), bw_ HB.out⟩

/-! ### pelorusref05_Infinite: function 34 -/
set_option maxHeartbeats 8000000 in
set_option maxRecDepth 100000 in
theorem pelorusref05_Infinite.calls (a0 : Bool) (r1 : Int) (r2 : Bool) (r3 : Int) (r4 : Int) (w : World) (h : pelorusref05_Infinite.f a0 = some (r1, r2, r3, r4)) :
  Calls Tryd.prog 34 #[.bool a0] w fun e w' => e = .returned (.agg #[.int .i64 r1, .bool r2, .int .u64 r3, .int .i64 r4]) ∧ Below w.heap.size w w' := by
 have hu30 := Tryd.underlying30
 have HB := Aside0.mk (Below.refl w.heap.size w)
 have H : (some (2, a0, 0, 0)) = some (r1, r2, r3, r4) := h
 clear h
 simp only [Option.some.injEq, Prod.mk.injEq] at H
 obtain ⟨rfl, rfl, rfl, rfl⟩ := H
 go_enter Tryd.func34, Tryd.ntmps34
 go_wp2_with (first | ((with_reducible refine gate_dst (N := 2) rfl ?_); refine bx_ 2 #[.int .i64 0, .bool false, .int .u64 0, .int .i64 0] 30 ?_; intro gb389 hg w2 hbox hb; have BK389 := Aside0.mk (hbox); have GW389 := ge_ hg HB; have GE389 := ge_ hg HB; replace HB := bq_ HB hb; clear hb hbox hg; obtain ⟨hcz3_0, hcz3_1, hcz3_2, hcz3_3, hfz3_0, hfz3_1, hfz3_2, hfz3_3⟩ := c4_ BK389))
 refine bodyPost_ret (results_cell_row rfl _ _ gb389 30 #[.int .i64 2, .bool a0, .int .u64 0, .int .i64 0] (0, 0) _ rfl (by refine kb_ ?_; refine bp_ #[.int .i64 2, .bool a0, .int .u64 0, .int .i64 0] 3 ?_; refine bp_ #[.int .i64 2, .bool a0, .int .u64 0, .int .i64 0] 2 ?_; refine bp_ #[.int .i64 2, .bool false, .int .u64 0, .int .i64 0] 1 ?_; refine bp_ #[.int .i64 0, .bool false, .int .u64 0, .int .i64 0] 0 ?_; exact BK389.out) Tryd.underlying30 rfl (by kernel_rfl)) rfl ?_
 exact ⟨rf_, bw_ HB.out⟩

/-! ### pelorusref05_finite: function 46 -/
set_option maxHeartbeats 8000000 in
set_option maxRecDepth 100000 in
theorem pelorusref05_finite.calls (a0 : Bool) (a1 : Int) (a2 : Int) (a3 : Bool) (r1 : Int) (r2 : Bool) (r3 : Int) (r4 : Int) (w : World) (h : pelorusref05_finite.f a0 a1 a2 a3 = some (r1, r2, r3, r4)) :
  Calls Tryd.prog 46 #[.bool a0, .int .u64 a1, .int .i64 a2, .bool a3] w fun e w' => e = .returned (.agg #[.int .i64 r1, .bool r2, .int .u64 r3, .int .i64 r4]) ∧ Below w.heap.size w w' := by
 have hu30 := Tryd.underlying30
 have HB := Aside0.mk (Below.refl w.heap.size w)
 have H : (if a2 > 1048576 then (if a3 = true then ((pelorusref05_Infinite.f a0).bind fun bt391 => (some (bt391.1, bt391.2.1, bt391.2.2.1, bt391.2.2.2))) else (some (1, a0, 18446744073709551615, 1048576))) else (if a2 < (-1048576) then (if a3 = true then (some (1, a0, 9223372036854775808, (-1048576))) else (some (0, false, 0, 0))) else (some (1, a0, a1, a2)))) = some (r1, r2, r3, r4) := h
 clear h
 by_cases c5 : a2 > 1048576
 ·rw [if_pos c5] at H
  have c5b0 : decide (1048576 < a2) = true := decide_eq_true c5
  clear c5
  by_cases c6 : a3 = true
  ·subst c6
   have H1 : ((pelorusref05_Infinite.f a0).bind fun bt391 => (some (bt391.1, bt391.2.1, bt391.2.2.1, bt391.2.2.2))) = some (r1, r2, r3, r4) := by rw [if_pos rfl] at H; exact H
   clear H
   have H := H1
   clear H1
   replace H := Option.bind_eq_some_iff.mp H
   obtain ⟨⟨t391, t392, t393, t394⟩, A70, H⟩ := H
   (try dsimp only at H)
   have A7 := Aside0.mk A70
   clear A70
   simp only [Option.some.injEq, Prod.mk.injEq] at H
   obtain ⟨rfl, rfl, rfl, rfl⟩ := H
   go_enter Tryd.func46, Tryd.ntmps46
   go_wp2_with (first | ((with_reducible refine gate_dst (N := 8) rfl ?_); refine bx_ 8 #[.int .i64 0, .bool false, .int .u64 0, .int .i64 0] 30 ?_; intro gb390 hg w8 hbox hb; have BK390 := Aside0.mk (hbox); have GW390 := ge_ hg HB; have GE390 := ge_ hg HB; replace HB := bq_ HB hb; clear hb hbox hg) | ((with_reducible refine gate_callee (f := 34) rfl ?_); refine gl_ (some 13) Tryd.func34 #[.bool a0] ?_; (with_reducible refine (pelorusref05_Infinite.calls a0 t391 t392 t393 t394 _ A7.out).mono ?_); rintro e w9 ⟨rfl, hb⟩; refine ⟨_, rfl, ?_⟩; replace BK390 := kq_ BK390 hb; replace HB := bq_ HB hb; (try clear hb); (try clear hb2); (try clear hk); (try clear hi); obtain ⟨hcz10_0, hcz10_1, hcz10_2, hcz10_3, hfz10_0, hfz10_1, hfz10_2, hfz10_3⟩ := c4_ BK390))
   refine bodyPost_ret (results_cell_row rfl _ _ gb390 30 #[.int .i64 t391, .bool t392, .int .u64 t393, .int .i64 t394] (0, 0) _ rfl (by refine kb_ ?_; refine bp_ #[.int .i64 t391, .bool t392, .int .u64 t393, .int .i64 0] 3 ?_; refine bp_ #[.int .i64 t391, .bool t392, .int .u64 0, .int .i64 0] 2 ?_; refine bp_ #[.int .i64 t391, .bool false, .int .u64 0, .int .i64 0] 1 ?_; refine bp_ #[.int .i64 0, .bool false, .int .u64 0, .int .i64 0] 0 ?_; exact BK390.out) Tryd.underlying30 rfl (by kernel_rfl)) rfl ?_
   exact ⟨rf_, bw_ HB.out⟩
  ·replace c6 := Bool.eq_false_iff.mpr c6
   subst c6
   have H1 : (some (1, a0, 18446744073709551615, 1048576)) = some (r1, r2, r3, r4) := by rw [if_neg (show ¬ (false = true) by decide)] at H; exact H
   clear H
   have H := H1
   clear H1
   simp only [Option.some.injEq, Prod.mk.injEq] at H
   obtain ⟨rfl, rfl, rfl, rfl⟩ := H
   go_enter Tryd.func46, Tryd.ntmps46
   go_wp2_with (first | ((with_reducible refine gate_dst (N := 8) rfl ?_); refine bx_ 8 #[.int .i64 0, .bool false, .int .u64 0, .int .i64 0] 30 ?_; intro gb390 hg w11 hbox hb; have BK390 := Aside0.mk (hbox); have GW390 := ge_ hg HB; have GE390 := ge_ hg HB; replace HB := bq_ HB hb; clear hb hbox hg; obtain ⟨hcz12_0, hcz12_1, hcz12_2, hcz12_3, hfz12_0, hfz12_1, hfz12_2, hfz12_3⟩ := c4_ BK390))
   refine bodyPost_ret (results_cell_row rfl _ _ gb390 30 #[.int .i64 1, .bool a0, .int .u64 18446744073709551615, .int .i64 1048576] (0, 0) _ rfl (by refine kb_ ?_; refine bp_ #[.int .i64 1, .bool a0, .int .u64 18446744073709551615, .int .i64 0] 3 ?_; refine bp_ #[.int .i64 1, .bool a0, .int .u64 0, .int .i64 0] 2 ?_; refine bp_ #[.int .i64 1, .bool false, .int .u64 0, .int .i64 0] 1 ?_; refine bp_ #[.int .i64 0, .bool false, .int .u64 0, .int .i64 0] 0 ?_; exact BK390.out) Tryd.underlying30 rfl (by kernel_rfl)) rfl ?_
   exact ⟨rf_, bw_ HB.out⟩
 ·rw [if_neg c5] at H
  have c5b0 : decide (1048576 < a2) = false := decide_eq_false c5
  clear c5
  by_cases c13 : a2 < (-1048576)
  ·rw [if_pos c13] at H
   have c13b0 : decide (a2 < (-1048576)) = true := decide_eq_true c13
   clear c13
   by_cases c14 : a3 = true
   ·subst c14
    have H1 : (some (1, a0, 9223372036854775808, (-1048576))) = some (r1, r2, r3, r4) := by rw [if_pos rfl] at H; exact H
    clear H
    have H := H1
    clear H1
    simp only [Option.some.injEq, Prod.mk.injEq] at H
    obtain ⟨rfl, rfl, rfl, rfl⟩ := H
    go_enter Tryd.func46, Tryd.ntmps46
    go_wp2_with (first | ((with_reducible refine gate_dst (N := 8) rfl ?_); refine bx_ 8 #[.int .i64 0, .bool false, .int .u64 0, .int .i64 0] 30 ?_; intro gb390 hg w15 hbox hb; have BK390 := Aside0.mk (hbox); have GW390 := ge_ hg HB; have GE390 := ge_ hg HB; replace HB := bq_ HB hb; clear hb hbox hg; obtain ⟨hcz16_0, hcz16_1, hcz16_2, hcz16_3, hfz16_0, hfz16_1, hfz16_2, hfz16_3⟩ := c4_ BK390))
    refine bodyPost_ret (results_cell_row rfl _ _ gb390 30 #[.int .i64 1, .bool a0, .int .u64 9223372036854775808, .int .i64 (-1048576)] (0, 0) _ rfl (by refine kb_ ?_; refine bp_ #[.int .i64 1, .bool a0, .int .u64 9223372036854775808, .int .i64 0] 3 ?_; refine bp_ #[.int .i64 1, .bool a0, .int .u64 0, .int .i64 0] 2 ?_; refine bp_ #[.int .i64 1, .bool false, .int .u64 0, .int .i64 0] 1 ?_; refine bp_ #[.int .i64 0, .bool false, .int .u64 0, .int .i64 0] 0 ?_; exact BK390.out) Tryd.underlying30 rfl (by kernel_rfl)) rfl ?_
    exact ⟨rf_, bw_ HB.out⟩
   ·replace c14 := Bool.eq_false_iff.mpr c14
    subst c14
    have H1 : (some (0, false, 0, 0)) = some (r1, r2, r3, r4) := by rw [if_neg (show ¬ (false = true) by decide)] at H; exact H
    clear H
    have H := H1
    clear H1
    simp only [Option.some.injEq, Prod.mk.injEq] at H
    obtain ⟨rfl, rfl, rfl, rfl⟩ := H
    go_enter Tryd.func46, Tryd.ntmps46
    go_wp2_with (first | ((with_reducible refine gate_dst (N := 8) rfl ?_); refine bx_ 8 #[.int .i64 0, .bool false, .int .u64 0, .int .i64 0] 30 ?_; intro gb390 hg w17 hbox hb; have BK390 := Aside0.mk (hbox); have GW390 := ge_ hg HB; have GE390 := ge_ hg HB; replace HB := bq_ HB hb; clear hb hbox hg; obtain ⟨hcz18_0, hcz18_1, hcz18_2, hcz18_3, hfz18_0, hfz18_1, hfz18_2, hfz18_3⟩ := c4_ BK390))
    refine bodyPost_ret (results_cell_row rfl _ _ gb390 30 #[.int .i64 0, .bool false, .int .u64 0, .int .i64 0] (0, 0) _ rfl (by refine kb_ ?_; refine bp_ #[.int .i64 0, .bool false, .int .u64 0, .int .i64 0] 3 ?_; refine bp_ #[.int .i64 0, .bool false, .int .u64 0, .int .i64 0] 2 ?_; refine bp_ #[.int .i64 0, .bool false, .int .u64 0, .int .i64 0] 1 ?_; refine bp_ #[.int .i64 0, .bool false, .int .u64 0, .int .i64 0] 0 ?_; exact BK390.out) Tryd.underlying30 rfl (by kernel_rfl)) rfl ?_
    exact ⟨rf_, bw_ HB.out⟩
  ·rw [if_neg c13] at H
   have c13b0 : decide (a2 < (-1048576)) = false := decide_eq_false c13
   clear c13
   simp only [Option.some.injEq, Prod.mk.injEq] at H
   obtain ⟨rfl, rfl, rfl, rfl⟩ := H
   go_enter Tryd.func46, Tryd.ntmps46
   go_wp2_with (first | ((with_reducible refine gate_dst (N := 8) rfl ?_); refine bx_ 8 #[.int .i64 0, .bool false, .int .u64 0, .int .i64 0] 30 ?_; intro gb390 hg w19 hbox hb; have BK390 := Aside0.mk (hbox); have GW390 := ge_ hg HB; have GE390 := ge_ hg HB; replace HB := bq_ HB hb; clear hb hbox hg; obtain ⟨hcz20_0, hcz20_1, hcz20_2, hcz20_3, hfz20_0, hfz20_1, hfz20_2, hfz20_3⟩ := c4_ BK390))
   refine bodyPost_ret (results_cell_row rfl _ _ gb390 30 #[.int .i64 1, .bool a0, .int .u64 a1, .int .i64 a2] (0, 0) _ rfl (by refine kb_ ?_; refine bp_ #[.int .i64 1, .bool a0, .int .u64 a1, .int .i64 0] 3 ?_; refine bp_ #[.int .i64 1, .bool a0, .int .u64 0, .int .i64 0] 2 ?_; refine bp_ #[.int .i64 1, .bool false, .int .u64 0, .int .i64 0] 1 ?_; refine bp_ #[.int .i64 0, .bool false, .int .u64 0, .int .i64 0] 0 ?_; exact BK390.out) Tryd.underlying30 rfl (by kernel_rfl)) rfl ?_
   exact ⟨rf_, bw_ HB.out⟩

end Go.Proofs.YtkemnoejpbknhaaDoor.PA
