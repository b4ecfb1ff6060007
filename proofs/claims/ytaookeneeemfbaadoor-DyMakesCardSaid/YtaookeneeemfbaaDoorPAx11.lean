-- Laid by this work's own program; Lean checks it.
import Derived.Test.YtaookeneeemfbaaDoorPAx0
import Derived.Test.YtaookeneeemfbaaDoorPAx1
import Derived.Test.YtaookeneeemfbaaDoorPAx10
namespace Go.Proofs.YtaookeneeemfbaaDoor.PA
open Go.RowKit Go.Proofs.YtaookeneeemfbaaDoorW.PrintWords Go.Proofs.YtaookeneeemfbaaDoorW.PrintLast Go.Proofs.YtaookeneeemfbaaDoorW.PrintMore
attribute [local go_sem] max2_int min2_int max_two min_two max_three min_three max_four min_four   -- for this text's walks alone
set_option linter.unusedVariables false
set_option linter.unusedSimpArgs false

attribute [local go_sem ↓ high] isSome_set_
/-! ### pelorusref01_Cmp: function 85 -/
set_option maxHeartbeats 8000000 in
set_option maxRecDepth 100000 in
theorem pelorusref01_Cmp.calls (k : Nat) (A0 : Option Addr) (c0 : Nat) (l0 : List Int) (A1 : Option Addr) (c1 : Nat) (l1 : List Int) (r : Int) (w : World) (hr0 : Kd.C (Kd.int .u32) w A0 l0.length l0) (hc0 : l0.length ≤ c0) (hr1 : Kd.C (Kd.int .u32) w A1 l1.length l1) (hc1 : l1.length ≤ c1) (h : pelorusref01_Cmp.f k l0 l1 = some r) :
  Calls Tryd.prog 85 #[.slice A0 l0.length c0, .slice A1 l1.length c1] w fun e w' => e = .returned (.int .i64 r) ∧ Below w.heap.size w w' := by
 have HR0 := Aside0.mk hr0
 have HC0 := Aside0.mk hc0
 clear hr0 hc0
 have HR1 := Aside0.mk hr1
 have HC1 := Aside0.mk hc1
 clear hr1 hc1
 have HB := Aside0.mk (Below.refl w.heap.size w)
 have H : ((pelorusref01_Trim.f k l0).bind fun t475 => ((pelorusref01_Trim.f k l1).bind fun t478 => (if (t475.length : Int) = (t478.length : Int) then (pelorusref01_Cmp.l0 k t475 t478 (wrap64 ((t475.length : Int) - 1))) else (if (t475.length : Int) < (t478.length : Int) then (some (-1)) else (some 1))))) = some r := h
 clear h
 replace H := Option.bind_eq_some_iff.mp H
 obtain ⟨t475, A30, H⟩ := H
 (try dsimp only at H)
 have A3 := Aside0.mk A30
 clear A30
 replace H := Option.bind_eq_some_iff.mp H
 obtain ⟨t478, A40, H⟩ := H
 (try dsimp only at H)
 have A4 := Aside0.mk A40
 clear A40
 by_cases c5 : (t475.length : Int) = (t478.length : Int)
 ·rw [if_pos c5] at H
  have c5b0 : ((t475.length : Int) == (t478.length : Int)) = true := beq_iff_eq.mpr c5
  have c5b1 : ((t475.length : Int) != (t478.length : Int)) = false := bne_eq_false_iff_eq.mpr c5
  have c5b2 : (t475.length == t478.length) = true := by first | simpa using c5 | (simp at c5 ⊢; omega)
  clear c5
  have H' := Aside0.mk H
  clear H
  go_enter Tryd.func85, Tryd.ntmps85
  iterate 3 (try go_wp2_with (first | (go_at_call 69; (with_reducible refine (pelorusref01_Trim.calls k _ _ l0 t475 _ ?side1 ?side2 A3.out).mono ?_); (case side1 => exact kc_ HR0.out); (case side2 => exact HC0.out); rintro e w6 ⟨v476, rfl, ho0, hb⟩; have HO477 := Aside0.mk (Kd.R_lower ho0 (below_size (bw_ HB.out))); replace HB := bq_ HB hb; (try clear hb); (try clear hb2); (try clear hk); (try clear hi); (try clear ho0)) | (go_at_call 69; (with_reducible refine (pelorusref01_Trim.calls k _ _ l1 t478 _ ?side1 ?side2 A4.out).mono ?_); (case side1 => exact kc_ (Kd.C_below HR1.out HB.out)); (case side2 => exact HC1.out); rintro e w7 ⟨v479, rfl, ho0, hb⟩; have HO480 := Aside0.mk (Kd.R_lower (Kd.R_new' ho0 (Kd.R_lt (kr_ HO477.out))) (below_size (bw_ HB.out))); replace HO477 := Aside0.mk (Kd.R_elder' (kr_ HO477.out) (Kd.R_base ho0) hb); replace HB := bq_ HB hb; (try clear hb); (try clear hb2); (try clear hk); (try clear hi); (try clear ho0); obtain ⟨Ao8, co8, eo8⟩ := Kd.R_slice HO477.out; subst eo8; obtain ⟨Ao9, co9, eo9⟩ := Kd.R_slice HO480.out; subst eo9)); try (go_quiet (fail)))
  go_loopg [7] k (fun kq v7 w' => ∃ (x7_1 : Int), v7 = .int .i64 x7_1 ∧ Aside0 (pelorusref01_Cmp.l0 kq t475 t478 x7_1 = some r) ∧ Aside0 (kq ≤ k) ∧ Aside0 (Kd.R (Kd.int .u32) 51 w' w.heap.size (fun k_ => some k_ ≠ ((.slice Ao9 t478.length co9) : Value).ownBlock) (.slice Ao8 t475.length co8) t475) ∧ Aside0 (Kd.R (Kd.int .u32) 51 w' w.heap.size (fun k_ => some k_ ≠ ((.slice Ao8 t475.length co8) : Value).ownBlock) (.slice Ao9 t478.length co9) t478) ∧ Aside0 (Below w.heap.size w w'))
  case atStart => exact ⟨(wrap64 ((t475.length : Int) - 1)), (by first | rfl | (simp; done) | (simp [*]; done)), H', ⟨Nat.le_refl _⟩, ⟨by (with_reducible repeat (first | apply Kd.R_alloc | apply Kd.R_drewN | apply Kd.R_drew)); exact Kd.R_mono HO477.out (fun _ hk => hk.2)⟩, ⟨by (with_reducible repeat (first | apply Kd.R_alloc | apply Kd.R_drewN | apply Kd.R_drew)); exact Kd.R_mono HO480.out (fun _ hk => hk.2)⟩, ⟨bw_ HB.out⟩⟩
  case round =>
   clear H'
   try clear c1
   try clear p2
   try clear c5
   try clear c5b0
   try clear c5b1
   try clear c5b2
   try clear p6
   try clear c8
   obtain ⟨x7_1, rfl, HA, HK1, HO_5, HO_6, HB⟩ := hrel
   cases gk with
   | zero => exact absurd HA.out (by simp [pelorusref01_Cmp.l0])
   | succ k1 =>
    have H := HA.out
    clear HA
    simp only [pelorusref01_Cmp.l0] at H
    by_cases c10 : x7_1 ≥ 0
    ·rw [if_pos c10] at H
     have c10b0 : decide (0 ≤ x7_1) = true := decide_eq_true c10
     clear c10
     by_cases c11 : 0 ≤ x7_1
     ·rw [if_pos c11] at H
      have c11b0 : decide (0 ≤ x7_1) = true := decide_eq_true c11
      clear c11
      by_cases c12 : x7_1 < (t475.length : Int)
      ·rw [if_pos c12] at H
       have c12b0 : decide (x7_1 < (t475.length : Int)) = true := decide_eq_true c12
       clear c12
       by_cases c13 : x7_1 < (t478.length : Int)
       ·rw [if_pos c13] at H
        have c13b0 : decide (x7_1 < (t478.length : Int)) = true := decide_eq_true c13
        clear c13
        by_cases c14 : (rd t475 x7_1) < (rd t478 x7_1)
        ·rw [if_pos c14] at H
         have c14b0 : decide ((rd t475 x7_1) < (rd t478 x7_1)) = true := decide_eq_true c14
         clear c14
         obtain rfl := Option.some.inj H
         have p481 : 0 ≤ (x7_1 : Int) := of_decide_eq_true (by first | (with_reducible assumption) | assumption)
         have q481 : x7_1 < (t475.length : Int) := of_decide_eq_true (by first | (with_reducible assumption) | assumption)
         obtain ⟨ad481, e481, hx481_0⟩ := Kd.at_int (Kd.R_reads' HO_5.out).2.2 x7_1 p481 q481
         cases e481
         replace p481 := eq_true p481
         replace q481 := eq_true q481
         have p482 : 0 ≤ (x7_1 : Int) := of_decide_eq_true (by first | (with_reducible assumption) | assumption)
         have q482 : x7_1 < (t478.length : Int) := of_decide_eq_true (by first | (with_reducible assumption) | assumption)
         obtain ⟨ad482, e482, hx482_0⟩ := Kd.at_int (Kd.R_reads' HO_6.out).2.2 x7_1 p482 q482
         cases e482
         replace p482 := eq_true p482
         replace q482 := eq_true q482
         go_wp2
         repeat (go_quiet (fail); try go_wp2)
         go_ret
         exact ⟨rf_, bw_ HB.out⟩
        ·rw [if_neg c14] at H
         have c14b0 : decide ((rd t475 x7_1) < (rd t478 x7_1)) = false := decide_eq_false c14
         clear c14
         by_cases c15 : (rd t475 x7_1) > (rd t478 x7_1)
         ·rw [if_pos c15] at H
          have c15b0 : decide ((rd t478 x7_1) < (rd t475 x7_1)) = true := decide_eq_true c15
          clear c15
          obtain rfl := Option.some.inj H
          have p481 : 0 ≤ (x7_1 : Int) := of_decide_eq_true (by first | (with_reducible assumption) | assumption)
          have q481 : x7_1 < (t475.length : Int) := of_decide_eq_true (by first | (with_reducible assumption) | assumption)
          obtain ⟨ad481, e481, hx481_0⟩ := Kd.at_int (Kd.R_reads' HO_5.out).2.2 x7_1 p481 q481
          cases e481
          replace p481 := eq_true p481
          replace q481 := eq_true q481
          have p482 : 0 ≤ (x7_1 : Int) := of_decide_eq_true (by first | (with_reducible assumption) | assumption)
          have q482 : x7_1 < (t478.length : Int) := of_decide_eq_true (by first | (with_reducible assumption) | assumption)
          obtain ⟨ad482, e482, hx482_0⟩ := Kd.at_int (Kd.R_reads' HO_6.out).2.2 x7_1 p482 q482
          cases e482
          replace p482 := eq_true p482
          replace q482 := eq_true q482
          have p483 : 0 ≤ (x7_1 : Int) := of_decide_eq_true (by first | (with_reducible assumption) | assumption)
          have q483 : x7_1 < (t475.length : Int) := of_decide_eq_true (by first | (with_reducible assumption) | assumption)
          obtain ⟨ad483, e483, hx483_0⟩ := Kd.at_int (Kd.R_reads' HO_5.out).2.2 x7_1 p483 q483
          obtain rfl : ad481 = ad483 := (by injection e483)
          replace p483 := eq_true p483
          replace q483 := eq_true q483
          have p484 : 0 ≤ (x7_1 : Int) := of_decide_eq_true (by first | (with_reducible assumption) | assumption)
          have q484 : x7_1 < (t478.length : Int) := of_decide_eq_true (by first | (with_reducible assumption) | assumption)
          obtain ⟨ad484, e484, hx484_0⟩ := Kd.at_int (Kd.R_reads' HO_6.out).2.2 x7_1 p484 q484
          obtain rfl : ad482 = ad484 := (by injection e484)
          replace p484 := eq_true p484
          replace q484 := eq_true q484
          go_wp2
          repeat (go_quiet (fail); try go_wp2)
          go_ret
          exact ⟨rf_, bw_ HB.out⟩
         ·rw [if_neg c15] at H
          have c15b0 : decide ((rd t478 x7_1) < (rd t475 x7_1)) = false := decide_eq_false c15
          clear c15
          have H' := Aside0.mk H
          clear H
          have p481 : 0 ≤ (x7_1 : Int) := of_decide_eq_true (by first | (with_reducible assumption) | assumption)
          have q481 : x7_1 < (t475.length : Int) := of_decide_eq_true (by first | (with_reducible assumption) | assumption)
          obtain ⟨ad481, e481, hx481_0⟩ := Kd.at_int (Kd.R_reads' HO_5.out).2.2 x7_1 p481 q481
          cases e481
          replace p481 := eq_true p481
          replace q481 := eq_true q481
          have p482 : 0 ≤ (x7_1 : Int) := of_decide_eq_true (by first | (with_reducible assumption) | assumption)
          have q482 : x7_1 < (t478.length : Int) := of_decide_eq_true (by first | (with_reducible assumption) | assumption)
          obtain ⟨ad482, e482, hx482_0⟩ := Kd.at_int (Kd.R_reads' HO_6.out).2.2 x7_1 p482 q482
          cases e482
          replace p482 := eq_true p482
          replace q482 := eq_true q482
          have p483 : 0 ≤ (x7_1 : Int) := of_decide_eq_true (by first | (with_reducible assumption) | assumption)
          have q483 : x7_1 < (t475.length : Int) := of_decide_eq_true (by first | (with_reducible assumption) | assumption)
          obtain ⟨ad483, e483, hx483_0⟩ := Kd.at_int (Kd.R_reads' HO_5.out).2.2 x7_1 p483 q483
          obtain rfl : ad481 = ad483 := (by injection e483)
          replace p483 := eq_true p483
          replace q483 := eq_true q483
          have p484 : 0 ≤ (x7_1 : Int) := of_decide_eq_true (by first | (with_reducible assumption) | assumption)
          have q484 : x7_1 < (t478.length : Int) := of_decide_eq_true (by first | (with_reducible assumption) | assumption)
          obtain ⟨ad484, e484, hx484_0⟩ := Kd.at_int (Kd.R_reads' HO_6.out).2.2 x7_1 p484 q484
          obtain rfl : ad482 = ad484 := (by injection e484)
          replace p484 := eq_true p484
          replace q484 := eq_true q484
          go_wp2
          repeat (go_quiet (fail); try go_wp2)
          go_roundg k1
          case measure => have := HK1.out; omega
          case rel => exact ⟨(wrap64 (x7_1 - 1)), (by first | rfl | (simp; done) | (simp [*]; done)), H', ⟨by have := HK1.out; omega⟩, ⟨by (with_reducible repeat (first | apply Kd.R_alloc | apply Kd.R_drewN | apply Kd.R_drew)); exact HO_5.out⟩, ⟨by (with_reducible repeat (first | apply Kd.R_alloc | apply Kd.R_drewN | apply Kd.R_drew)); exact HO_6.out⟩, ⟨bw_ HB.out⟩⟩
       ·rw [if_neg c13] at H
        exact absurd H (by simp)
      ·rw [if_neg c12] at H
       exact absurd H (by simp)
     ·rw [if_neg c11] at H
      exact absurd H (by simp)
    ·rw [if_neg c10] at H
     have c10b0 : decide (0 ≤ x7_1) = false := decide_eq_false c10
     clear c10
     obtain rfl := Option.some.inj H
     go_wp2
     repeat (go_quiet (fail); try go_wp2)
     go_ret
     exact ⟨rf_, bw_ HB.out⟩
 ·rw [if_neg c5] at H
  have c5b0 : ((t475.length : Int) == (t478.length : Int)) = false := beq_eq_false_iff_ne.mpr c5
  have c5b1 : ((t475.length : Int) != (t478.length : Int)) = true := bne_iff_ne.mpr c5
  have c5b2 : (t475.length == t478.length) = false := by first | simpa using c5 | (simp at c5 ⊢; omega)
  by_cases c16 : (t475.length : Int) < (t478.length : Int)
  ·rw [if_pos c16] at H
   have c16b0 : decide ((t475.length : Int) < (t478.length : Int)) = true := decide_eq_true c16
   have c16b1 : decide (t475.length < t478.length) = true := decide_eq_true (Int.ofNat_lt.mp c16)
   clear c16
   obtain rfl := Option.some.inj H
   go_enter Tryd.func85, Tryd.ntmps85
   iterate 3 (try go_wp2_with (first | (go_at_call 69; (with_reducible refine (pelorusref01_Trim.calls k _ _ l0 t475 _ ?side1 ?side2 A3.out).mono ?_); (case side1 => exact kc_ HR0.out); (case side2 => exact HC0.out); rintro e w17 ⟨v476, rfl, ho0, hb⟩; have HO477 := Aside0.mk (Kd.R_lower ho0 (below_size (bw_ HB.out))); replace HB := bq_ HB hb; (try clear hb); (try clear hb2); (try clear hk); (try clear hi); (try clear ho0)) | (go_at_call 69; (with_reducible refine (pelorusref01_Trim.calls k _ _ l1 t478 _ ?side1 ?side2 A4.out).mono ?_); (case side1 => exact kc_ (Kd.C_below HR1.out HB.out)); (case side2 => exact HC1.out); rintro e w18 ⟨v479, rfl, ho0, hb⟩; have HO480 := Aside0.mk (Kd.R_lower (Kd.R_new' ho0 (Kd.R_lt (kr_ HO477.out))) (below_size (bw_ HB.out))); replace HO477 := Aside0.mk (Kd.R_elder' (kr_ HO477.out) (Kd.R_base ho0) hb); replace HB := bq_ HB hb; (try clear hb); (try clear hb2); (try clear hk); (try clear hi); (try clear ho0); obtain ⟨Ao19, co19, eo19⟩ := Kd.R_slice HO477.out; subst eo19; obtain ⟨Ao20, co20, eo20⟩ := Kd.R_slice HO480.out; subst eo20)); try (go_quiet (fail)))
   go_ret
   exact ⟨rf_, bw_ HB.out⟩
  ·rw [if_neg c16] at H
   have c16b0 : decide ((t475.length : Int) < (t478.length : Int)) = false := decide_eq_false c16
   have c16b1 : decide (t475.length < t478.length) = false := decide_eq_false (fun h => c16 (Int.ofNat_lt.mpr h))
   clear c16
   obtain rfl := Option.some.inj H
   go_enter Tryd.func85, Tryd.ntmps85
   iterate 3 (try go_wp2_with (first | (go_at_call 69; (with_reducible refine (pelorusref01_Trim.calls k _ _ l0 t475 _ ?side1 ?side2 A3.out).mono ?_); (case side1 => exact kc_ HR0.out); (case side2 => exact HC0.out); rintro e w21 ⟨v476, rfl, ho0, hb⟩; have HO477 := Aside0.mk (Kd.R_lower ho0 (below_size (bw_ HB.out))); replace HB := bq_ HB hb; (try clear hb); (try clear hb2); (try clear hk); (try clear hi); (try clear ho0)) | (go_at_call 69; (with_reducible refine (pelorusref01_Trim.calls k _ _ l1 t478 _ ?side1 ?side2 A4.out).mono ?_); (case side1 => exact kc_ (Kd.C_below HR1.out HB.out)); (case side2 => exact HC1.out); rintro e w22 ⟨v479, rfl, ho0, hb⟩; have HO480 := Aside0.mk (Kd.R_lower (Kd.R_new' ho0 (Kd.R_lt (kr_ HO477.out))) (below_size (bw_ HB.out))); replace HO477 := Aside0.mk (Kd.R_elder' (kr_ HO477.out) (Kd.R_base ho0) hb); replace HB := bq_ HB hb; (try clear hb); (try clear hb2); (try clear hk); (try clear hi); (try clear ho0); obtain ⟨Ao23, co23, eo23⟩ := Kd.R_slice HO477.out; subst eo23; obtain ⟨Ao24, co24, eo24⟩ := Kd.R_slice HO480.out; subst eo24)); try (go_quiet (fail)))
   go_ret
   exact ⟨rf_, bw_ HB.out⟩

/-! ### pelorusref01_Sub: function 82 -/
set_option maxHeartbeats 8000000 in
set_option maxRecDepth 100000 in
theorem pelorusref01_Sub.calls (k : Nat) (A0 : Option Addr) (c0 : Nat) (l0 : List Int) (A1 : Option Addr) (c1 : Nat) (l1 : List Int) (r1 : List Int) (r2 : Bool) (w : World) (hr0 : Kd.C (Kd.int .u32) w A0 l0.length l0) (hc0 : l0.length ≤ c0) (hr1 : Kd.C (Kd.int .u32) w A1 l1.length l1) (hc1 : l1.length ≤ c1) (h : pelorusref01_Sub.f k l0 l1 = some (r1, r2)) :
  Calls Tryd.prog 82 #[.slice A0 l0.length c0, .slice A1 l1.length c1] w fun e w' => ∃ v0_ : Value, e = .returned (.tuple #[v0_, .bool r2]) ∧ Kd.R (Kd.int .u32) 51 w' w.heap.size (fun _ => True) v0_ r1 ∧ Below w.heap.size w w' := by
 have HR0 := Aside0.mk hr0
 have HC0 := Aside0.mk hc0
 clear hr0 hc0
 have HR1 := Aside0.mk hr1
 have HC1 := Aside0.mk hc1
 clear hr1 hc1
 have HB := Aside0.mk (Below.refl w.heap.size w)
 have H : ((pelorusref01_Cmp.f k l0 l1).bind fun t485 => (if t485 < 0 then (some (([] : List Int), false)) else (pelorusref01_Sub.l0 k l0 l1 ([] : List Int) 0 0))) = some (r1, r2) := h
 clear h
 replace H := Option.bind_eq_some_iff.mp H
 obtain ⟨t485, A30, H⟩ := H
 (try dsimp only at H)
 have A3 := Aside0.mk A30
 clear A30
 by_cases c4 : t485 < 0
 ·rw [if_pos c4] at H
  have c4b0 : decide (t485 < 0) = true := decide_eq_true c4
  clear c4
  simp only [Option.some.injEq, Prod.mk.injEq] at H
  obtain ⟨rfl, rfl⟩ := H
  go_enter Tryd.func82, Tryd.ntmps82
  go_wp2_with (first | ((with_reducible refine gate_callee (f := 85) rfl ?_); refine gl_ (some 12) Tryd.func85 #[.slice A0 l0.length c0, .slice A1 l1.length c1] ?_; (with_reducible refine (pelorusref01_Cmp.calls k _ _ l0 _ _ l1 t485 _ ?side1 ?side2 ?side3 ?side4 A3.out).mono ?_); (case side1 => exact kc_ HR0.out); (case side2 => exact HC0.out); (case side3 => exact kc_ HR1.out); (case side4 => exact HC1.out); rintro e w5 ⟨rfl, hb⟩; refine ⟨_, rfl, ?_⟩; replace HB := bq_ HB hb; (try clear hb); (try clear hb2); (try clear hk); (try clear hi)))
  go_ret2
  exact ⟨_, rf_, by first | exact Kd.R_nil _ _ _ _ _ | exact Kd.N_nil _ _ _ _ _ | exact Kd.V_nil _ _ _ _ _ | exact Kd.Q_nil _ _ _ _ _ | exact Kd.S_nil _ _ _ _ _, bw_ HB.out⟩
 ·rw [if_neg c4] at H
  have c4b0 : decide (t485 < 0) = false := decide_eq_false c4
  clear c4
  have H' := Aside0.mk H
  clear H
  go_enter Tryd.func82, Tryd.ntmps82
  go_wp2_with (first | ((with_reducible refine gate_callee (f := 85) rfl ?_); refine gl_ (some 12) Tryd.func85 #[.slice A0 l0.length c0, .slice A1 l1.length c1] ?_; (with_reducible refine (pelorusref01_Cmp.calls k _ _ l0 _ _ l1 t485 _ ?side1 ?side2 ?side3 ?side4 A3.out).mono ?_); (case side1 => exact kc_ HR0.out); (case side2 => exact HC0.out); (case side3 => exact kc_ HR1.out); (case side4 => exact HC1.out); rintro e w6 ⟨rfl, hb⟩; refine ⟨_, rfl, ?_⟩; replace HB := bq_ HB hb; (try clear hb); (try clear hb2); (try clear hk); (try clear hi)))
  go_loopg [6, 7, 8] k (fun kq v6 v7 v8 w' => ∃ (x6_1 : List Int) (x7_1 : Int) (x8_1 : Int), v7 = .int .u64 x7_1 ∧ v8 = .int .i64 x8_1 ∧ Aside0 (pelorusref01_Sub.l0 kq l0 l1 x6_1 x7_1 x8_1 = some (r1, r2)) ∧ Aside0 (kq ≤ k) ∧ Aside0 (Kd.R (Kd.int .u32) 51 w' w.heap.size (fun _ => True) v6 x6_1) ∧ Aside0 (Below w.heap.size w w'))
  case atStart => exact ⟨(([] : List Int)), (0), (0), (by first | rfl | (simp; done) | (simp [*]; done)), (by first | rfl | (simp; done) | (simp [*]; done)), H', ⟨Nat.le_refl _⟩, ⟨by first | exact Kd.R_nil _ _ _ _ _ | exact Kd.N_nil _ _ _ _ _ | exact Kd.V_nil _ _ _ _ _ | exact Kd.Q_nil _ _ _ _ _ | exact Kd.S_nil _ _ _ _ _⟩, ⟨bw_ HB.out⟩⟩
  case round =>
   clear H'
   try clear c1
   try clear p2
   try clear c4
   try clear c4b0
   obtain ⟨x6_1, x7_1, x8_1, rfl, rfl, HA, HK1, HO_6, HB⟩ := hrel
   cases gk with
   | zero => exact absurd HA.out (by simp [pelorusref01_Sub.l0])
   | succ k1 =>
    have H := HA.out
    clear HA
    simp only [pelorusref01_Sub.l0] at H
    by_cases c7 : x8_1 < (l0.length : Int)
    ·rw [if_pos c7] at H
     have c7b0 : decide (x8_1 < (l0.length : Int)) = true := decide_eq_true c7
     clear c7
     replace H := Option.bind_eq_some_iff.mp H
     obtain ⟨t486, A80, H⟩ := H
     (try dsimp only at H)
     have A8 := Aside0.mk A80
     clear A80
     replace H := Option.bind_eq_some_iff.mp H
     obtain ⟨t487, A90, H⟩ := H
     (try dsimp only at H)
     have A9 := Aside0.mk A90
     clear A90
     by_cases c10 : x6_1.length < 35184372088832
     ·rw [if_pos c10] at H
      have LMc10 := Aside0.mk c10
      clear c10
      obtain ⟨y488, hy488⟩ : ∃ y_ : List Int, y_ = (x6_1 ++ [(Int.tmod (IntKind.u64.wrap ((IntKind.u64.wrap ((IntKind.u64.wrap (4294967296 + t486)) - t487)) - x7_1)) 4294967296) % 4294967296]) := ⟨_, rfl⟩
      replace H : (pelorusref01_Sub.l0 k1 l0 l1 y488 (IntKind.u64.wrap (1 - (IntKind.u64.wrap (Int.tdiv (IntKind.u64.wrap ((IntKind.u64.wrap ((IntKind.u64.wrap (4294967296 + t486)) - t487)) - x7_1)) 4294967296)))) (wrap64 (x8_1 + 1))) = some (r1, r2) := by first | (rw [hy488]; with_reducible exact H) | (have H2_ := (Option.bind_some _ _).symm.trans H; rw [hy488]; with_reducible exact H2_) | (have H2_ := (Option.bind_some _ _).symm.trans H; with_reducible exact H2_) | with_reducible exact H | (rw [hy488]; exact H) | exact H
      have Ny488 := Aside0.mk hy488
      clear hy488
      have H' := Aside0.mk H
      clear H
      go_wp2_with (first | ((with_reducible refine gate_callee (f := 84) rfl ?_); refine gl_ (some 22) Tryd.func84 #[.slice A0 l0.length c0, .int .i64 x8_1] ?_; (with_reducible refine (pelorusref01_at.calls _ _ l0 x8_1 t486 _ ?side1 ?side2 A8.out).mono ?_); (case side1 => exact kc_ (Kd.C_below HR0.out HB.out)); (case side2 => exact HC0.out); rintro e w' ⟨rfl, ⟨nd, rfl⟩⟩; refine ⟨_, rfl, ?_⟩) | ((with_reducible refine gate_callee (f := 84) rfl ?_); refine gl_ (some 26) Tryd.func84 #[.slice A1 l1.length c1, .int .i64 x8_1] ?_; (with_reducible refine (pelorusref01_at.calls _ _ l1 x8_1 t487 _ ?side1 ?side2 A9.out).mono ?_); (case side1 => exact kc_ (Kd.C_below HR1.out (bw_ HB.out))); (case side2 => exact HC1.out); rintro e w' ⟨rfl, ⟨nd, rfl⟩⟩; refine ⟨_, rfl, ?_⟩) | ((with_reducible refine gate_builtin (b := .append) (xs := #[.tmp 30, .tmp 34]) rfl ?_); at_builtin; refine Kd.R_append (Kd.int .u32) (w0 := w) w.heap.size rfl (.tmp 30) (.tmp 34) 22 51 (.int .u32 0) 4 rfl Tryd.underlying22 info51 rfl (by decide) (by omega) u6 x6_1 ((Int.tmod (IntKind.u64.wrap ((IntKind.u64.wrap ((IntKind.u64.wrap (4294967296 + t486)) - t487)) - x7_1)) 4294967296) % 4294967296) [.int .u32 ((Int.tmod (IntKind.u64.wrap ((IntKind.u64.wrap ((IntKind.u64.wrap (4294967296 + t486)) - t487)) - x7_1)) 4294967296) % 4294967296)] (fun _ => True) (fun _ => False) rfl rfl ?aP (fun _ hk => hk.elim) ?aF ?aO ?aB ?aS ?aL ?_; (case aP => exact rfl); (case aB => exact (bw_ HB.out)); (case aF => exact (fun _ _ => trivial)); (case aO => exact (kr_ HO_6.out)); (case aS => exact (below_size (bw_ HB.out))); (case aL => have := LMc10.out; omega); intro v489 w11 ho hb hg hat; rw [← Ny488.out] at ho; have HO490 := Aside0.mk (ho); replace HB := Aside0.mk (hb); clear HO_6; clear ho hb hg hat))
      go_roundg k1
      case measure => have := HK1.out; omega
      case rel => exact ⟨(y488), (IntKind.u64.wrap (1 - (IntKind.u64.wrap (Int.tdiv (IntKind.u64.wrap ((IntKind.u64.wrap ((IntKind.u64.wrap (4294967296 + t486)) - t487)) - x7_1)) 4294967296)))), (wrap64 (x8_1 + 1)), (by first | rfl | (simp; done) | (simp [*]; done)), (by first | rfl | (simp; done) | (simp [*]; done)), H', ⟨by have := HK1.out; omega⟩, ⟨by (with_reducible repeat (first | apply Kd.R_alloc | apply Kd.R_drewN | apply Kd.R_drew)); exact HO490.out⟩, ⟨bw_ HB.out⟩⟩
     ·rw [if_neg c10] at H
      exact absurd H (by simp)
    ·rw [if_neg c7] at H
     have c7b0 : decide (x8_1 < (l0.length : Int)) = false := decide_eq_false c7
     clear c7
     replace H := Option.bind_eq_some_iff.mp H
     obtain ⟨t491, A120, H⟩ := H
     (try dsimp only at H)
     have A12 := Aside0.mk A120
     clear A120
     simp only [Option.some.injEq, Prod.mk.injEq] at H
     obtain ⟨rfl, rfl⟩ := H
     obtain ⟨Ao13, co13, eo13⟩ := Kd.R_slice HO_6.out
     subst eo13
     go_wp2_with (first | ((with_reducible refine gate_callee (f := 69) rfl ?_); refine gl_ (some 40) Tryd.func69 #[.slice Ao13 x6_1.length co13] ?_; (with_reducible refine (pelorusref01_Trim.calls k1 _ _ x6_1 t491 _ ?side1 ?side2 A12.out).mono ?_); (case side1 => exact kc_ (Kd.R_reads' HO_6.out).2.2); (case side2 => exact (Kd.R_reads' HO_6.out).2.1); rintro e w14 ⟨v492, rfl, ho0, hb⟩; refine ⟨_, rfl, ?_⟩; have HO493 := Aside0.mk (Kd.R_lower (Kd.R_new' ho0 (Kd.R_lt (kr_ HO_6.out))) (below_size (bw_ HB.out))); replace HO_6 := Aside0.mk (Kd.R_elder' (kr_ HO_6.out) (Kd.R_base ho0) hb); replace HB := bq_ HB hb; (try clear hb); (try clear hb2); (try clear hk); (try clear hi); (try clear ho0)))
     go_ret2
     exact ⟨_, rf_, by (with_reducible repeat (first | apply Kd.R_alloc | apply Kd.R_drewN | apply Kd.R_drew)); exact Kd.R_mono HO493.out (fun _ hk => trivial), bw_ HB.out⟩

/-! ### pelorusref01_set: function 83 -/
set_option maxHeartbeats 8000000 in
set_option maxRecDepth 100000 in
theorem pelorusref01_set.calls (k : Nat) (A0 : Option Addr) (c0 : Nat) (l0 : List Int) (a1 : Int) (r : List Int) (w : World) (hr0 : Kd.C (Kd.int .u32) w A0 l0.length l0) (hc0 : l0.length ≤ c0) (h : pelorusref01_set.f k l0 a1 = some r) :
  Calls Tryd.prog 83 #[.slice A0 l0.length c0, .int .i64 a1] w fun e w' => ∃ v0_ : Value, e = .returned (v0_) ∧ Kd.R (Kd.int .u32) 51 w' w.heap.size (fun _ => True) v0_ r ∧ Below w.heap.size w w' := by
 have HR0 := Aside0.mk hr0
 have HC0 := Aside0.mk hc0
 clear hr0 hc0
 have HB := Aside0.mk (Below.refl w.heap.size w)
 have H : (if ([] : List Int).length + l0.length < 35184372088832 then (pelorusref01_set.l0 k a1 (([] : List Int) ++ l0)) else (none)) = some r := h
 clear h
 by_cases c3 : ([] : List Int).length + l0.length < 35184372088832
 ·rw [if_pos c3] at H
  have LMc3 := Aside0.mk c3
  clear c3
  obtain ⟨y494, hy494⟩ : ∃ y_ : List Int, y_ = (([] : List Int) ++ l0) := ⟨_, rfl⟩
  replace H : (pelorusref01_set.l0 k a1 y494) = some r := by first | (rw [hy494]; with_reducible exact H) | (have H2_ := (Option.bind_some _ _).symm.trans H; rw [hy494]; with_reducible exact H2_) | (have H2_ := (Option.bind_some _ _).symm.trans H; with_reducible exact H2_) | with_reducible exact H | (rw [hy494]; exact H) | exact H
  have Ny494 := Aside0.mk hy494
  clear hy494
  have H' := Aside0.mk H
  clear H
  go_enter Tryd.func83, Tryd.ntmps83
  go_wp2_with (first | ((with_reducible refine gate_builtin (b := .append) (xs := #[.const (.slice none 0 0), .tmp 6]) rfl ?_); at_builtin; refine Kd.R_append_rows (Kd.int .u32) (w0 := w) w.heap.size rfl (.const (.slice none 0 0)) (.tmp 6) 22 51 (.int .u32 0) 4 rfl Tryd.underlying22 info51 rfl (by decide) (by omega) (.slice none 0 0) ([] : List Int) l0 _ _ _ (fun _ => True) (fun _ => False) rfl rfl ?aO ?aR (fun _ _ h => h) (fun _ h => h.elim) ?aF ?aB ?aS ?aL ?_; (case aR => exact kc_ HR0.out); (case aB => exact (bw_ HB.out)); (case aF => exact (fun _ _ => trivial)); (case aO => exact ((Kd.R_nil _ _ _ _ (fun _ => True)))); (case aS => exact (below_size (bw_ HB.out))); (case aL => have := LMc3.out; omega); intro v495 w4 ho hb hg hat; rw [← Ny494.out] at ho; have HO496 := Aside0.mk (ho); replace HB := Aside0.mk (hb); clear ho hb hg hat))
  go_loopg [5] k (fun kq v5 w' => ∃ (x5_1 : List Int), Aside0 (pelorusref01_set.l0 kq a1 x5_1 = some r) ∧ Aside0 (kq ≤ k) ∧ Aside0 (Kd.R (Kd.int .u32) 51 w' w.heap.size (fun _ => True) v5 x5_1) ∧ Aside0 (Below w.heap.size w w'))
  case atStart => exact ⟨(y494), H', ⟨Nat.le_refl _⟩, ⟨by (with_reducible repeat (first | apply Kd.R_alloc | apply Kd.R_drewN | apply Kd.R_drew)); exact HO496.out⟩, ⟨bw_ HB.out⟩⟩
  case round =>
   clear H'
   try clear p2
   try clear c3
   obtain ⟨x5_1, HA, HK1, HO_5, HB⟩ := hrel
   cases gk with
   | zero => exact absurd HA.out (by simp [pelorusref01_set.l0])
   | succ k1 =>
    have H := HA.out
    clear HA
    simp only [pelorusref01_set.l0] at H
    by_cases c5 : (x5_1.length : Int) ≤ (wrap64 (Int.tdiv a1 32))
    ·rw [if_pos c5] at H
     have c5b0 : decide ((x5_1.length : Int) ≤ (wrap64 (Int.tdiv a1 32))) = true := decide_eq_true c5
     clear c5
     by_cases c6 : x5_1.length < 35184372088832
     ·rw [if_pos c6] at H
      have LMc6 := Aside0.mk c6
      clear c6
      obtain ⟨y497, hy497⟩ : ∃ y_ : List Int, y_ = (x5_1 ++ [0]) := ⟨_, rfl⟩
      replace H : (pelorusref01_set.l0 k1 a1 y497) = some r := by first | (rw [hy497]; with_reducible exact H) | (have H2_ := (Option.bind_some _ _).symm.trans H; rw [hy497]; with_reducible exact H2_) | (have H2_ := (Option.bind_some _ _).symm.trans H; with_reducible exact H2_) | with_reducible exact H | (rw [hy497]; exact H) | exact H
      have Ny497 := Aside0.mk hy497
      clear hy497
      have H' := Aside0.mk H
      clear H
      obtain ⟨Ao7, co7, eo7⟩ := Kd.R_slice HO_5.out
      subst eo7
      go_wp2_with (first | ((with_reducible refine gate_builtin (b := .append) (xs := #[.tmp 13, .tmp 14]) rfl ?_); at_builtin; refine Kd.R_append (Kd.int .u32) (w0 := w) w.heap.size rfl (.tmp 13) (.tmp 14) 22 51 (.int .u32 0) 4 rfl Tryd.underlying22 info51 rfl (by decide) (by omega) (.slice Ao7 x5_1.length co7) x5_1 0 [.int .u32 0] (fun _ => True) (fun _ => False) rfl rfl ?aP (fun _ hk => hk.elim) ?aF ?aO ?aB ?aS ?aL ?_; (case aP => exact rfl); (case aB => exact (bw_ HB.out)); (case aF => exact (fun _ _ => trivial)); (case aO => exact (kr_ HO_5.out)); (case aS => exact (below_size (bw_ HB.out))); (case aL => have := LMc6.out; omega); intro v498 w8 ho hb hg hat; rw [← Ny497.out] at ho; have HO499 := Aside0.mk (ho); replace HB := Aside0.mk (hb); clear HO_5; clear ho hb hg hat))
      go_roundg k1
      case measure => have := HK1.out; omega
      case rel => exact ⟨(y497), H', ⟨by have := HK1.out; omega⟩, ⟨by (with_reducible repeat (first | apply Kd.R_alloc | apply Kd.R_drewN | apply Kd.R_drew)); exact HO499.out⟩, ⟨bw_ HB.out⟩⟩
     ·rw [if_neg c6] at H
      exact absurd H (by simp)
    ·rw [if_neg c5] at H
     have c5b0 : decide ((x5_1.length : Int) ≤ (wrap64 (Int.tdiv a1 32))) = false := decide_eq_false c5
     clear c5
     obtain ⟨ji9, hji9⟩ : ∃ j_ : Int, (wrap64 (Int.tdiv a1 32)) = j_ := ⟨_, rfl⟩
     (first | rw [hji9] at H | simp only [hji9] at H)
     (try rw [hji9] at c5b0)
     have hji9w : (IntKind.i64.wrap (Int.tdiv a1 32)) = ji9 := (i64_w _).trans hji9
     by_cases c10 : 0 ≤ (ji9)
     ·rw [if_pos c10] at H
      have c10b0 : decide (0 ≤ (ji9)) = true := decide_eq_true c10
      clear c10
      by_cases c11 : (ji9) < (x5_1.length : Int)
      ·rw [if_pos c11] at H
       have c11b0 : decide ((ji9) < (x5_1.length : Int)) = true := decide_eq_true c11
       clear c11
       obtain ⟨ji12, hji12⟩ : ∃ j_ : Int, (IntKind.u64.wrap (Int.tmod a1 32)) = j_ := ⟨_, rfl⟩
       (first | rw [hji12] at H | simp only [hji12] at H)
       by_cases c13 : 0 ≤ (ji12)
       ·rw [if_pos c13] at H
        have c13b0 := eq_true c13
        have c13b1 : decide (0 ≤ (ji12)) = true := decide_eq_true c13
        clear c13
        obtain ⟨ji14, hji14⟩ : ∃ j_ : Int, (shl .u32 1 (ji12)) = j_ := ⟨_, rfl⟩
        (first | rw [hji14] at H | simp only [hji14] at H)
        have hji14_ : (IntKind.u32.wrap (1 * 2 ^ min (ji12).toNat 32)) = ji14 := hji14
        have hji14z : (ji12) ≤ 32 → (IntKind.u32.wrap (1 * 2 ^ (ji12).toNat)) = ji14 := shl_small hji14
        have hji14u : (IntKind.u32.wrap (2 ^ min (ji12).toNat 32)) = ji14 := by have h_ := hji14_; rw [Int.one_mul] at h_; exact h_
        have hji14v : (ji12) ≤ 32 → (IntKind.u32.wrap (2 ^ (ji12).toNat)) = ji14 := fun hle_ => by have h_ := hji14z hle_; rw [Int.one_mul] at h_; exact h_
        obtain ⟨y501, hy501⟩ : ∃ y_ : List Int, y_ = (x5_1.set ((ji9) : Int).toNat (((rd x5_1 (ji9)) + (ji14)) % 4294967296)) := ⟨_, rfl⟩
        replace H : (some y501) = some r := by first | (rw [hy501]; with_reducible exact H) | (have H2_ := (Option.bind_some _ _).symm.trans H; rw [hy501]; with_reducible exact H2_) | (have H2_ := (Option.bind_some _ _).symm.trans H; with_reducible exact H2_) | with_reducible exact H | (rw [hy501]; exact H) | exact H
        have Ny501 := Aside0.mk hy501
        clear hy501
        obtain rfl := Option.some.inj H
        obtain ⟨Ao16, co16, eo16⟩ := Kd.R_slice HO_5.out
        subst eo16
        have p500 : 0 ≤ ((ji9) : Int) := of_decide_eq_true (by first | (with_reducible assumption) | assumption)
        have q500 : (ji9) < (x5_1.length : Int) := of_decide_eq_true (by first | (with_reducible assumption) | assumption)
        obtain ⟨ad500, e500, hx500_0⟩ := Kd.at_int (Kd.R_reads' HO_5.out).2.2 (ji9) p500 q500
        cases e500
        replace p500 := eq_true p500
        replace q500 := eq_true q500
        have p15 : 0 ≤ ((ji9) : Int) := of_decide_eq_true (by first | (with_reducible assumption) | assumption)
        have q15 : ((ji9) : Int) < ((x5_1.length : Int) : Int) := of_decide_eq_true (by first | (with_reducible assumption) | assumption)
        obtain ⟨go15, co15, eo15, gb15, gl15, cl15, HG15⟩ := Kd.R_form HO_5.out (by omega)
        (first | cases eo15 | (injection eo15 with ea_ en_ ec_; (first | subst ea_ | (injection ea_ with ea_; subst ea_)); subst ec_; clear en_))
        have GB15 := Aside0.mk gb15
        have GG15 := Aside0.mk HG15
        clear gb15 gl15 HG15
        (first | simp only [add_plain] at hx500_0 | skip)
        obtain ⟨hx15_0, hf15_0⟩ := Kd.R_celln 0 HO_5.out ((ji9) : Int) p15 q15
        replace p15 := eq_true p15
        replace q15 := eq_true q15
        have HP17 := Kd.R_putg HO_5.out ((ji9) : Int) (((rd x5_1 (ji9)) + (ji14)) % 4294967296)
        go_wp2_with (first | ((with_reducible refine gate_store (t := 51) (p := 29) rfl ?_); refine store_event (t := 51) (p := 29) (v := ?vo_w18) (w1 := (wr.setCell ⟨go15, ((ji9) : Int).toNat, none⟩ (.int .u32 (((rd x5_1 (ji9)) + (ji14)) % 4294967296)))) ?hg ?ho ?hn ?hr ?_; (case ho => rfl); (case hg => rfl); (case hn => rfl); (case hr => first | (go_simp; done) | (go_simp; rfl)); intro w18 hw; have hg : wr.grownBy w18 (some go15) := (by rw [hw]; exact HP17.2); have hp_ : Kd.R (Kd.int .u32) 51 w18 w.heap.size (fun _ => True) (.slice (some ⟨go15, 0, none⟩) x5_1.length co16) y501 := (by rw [hw, Ny501.out]; exact HP17.1); clear HP17; have n0_ := Aside0.mk (hp_); have n1_ := Aside0.mk ((by rw [hw]; exact below_set (HB.out) GB15.out : Below w.heap.size w w18)); clear HO_5; clear HB; have HO_5 := n0_; have HB := n1_; clear n0_ n1_; clear hg hw hp_))
        go_ret
        exact ⟨_, by first | rfl | (simp [errW_none, errW_some] <;> rfl) | (simp only [← hji9, ← hji12, ← hji14]; first | rfl | (simp [errW_none, errW_some] <;> rfl)) | (simp [*, errW_none, errW_some] <;> rfl), by (with_reducible repeat (first | apply Kd.R_alloc | apply Kd.R_drewN | apply Kd.R_drew)); exact HO_5.out, bw_ HB.out⟩
       ·rw [if_neg c13] at H
        exact absurd H (by simp)
      ·rw [if_neg c11] at H
       exact absurd H (by simp)
     ·rw [if_neg c10] at H
      exact absurd H (by simp)
 ·rw [if_neg c3] at H
  exact absurd H (by simp)

/-! ### pelorusref01_Div: function 70 -/
set_option maxHeartbeats 8000000 in
set_option maxRecDepth 100000 in
theorem pelorusref01_Div.calls (k : Nat) (A0 : Option Addr) (c0 : Nat) (l0 : List Int) (A1 : Option Addr) (c1 : Nat) (l1 : List Int) (r1 : List Int) (r2 : List Int) (r3 : Bool) (w : World) (hr0 : Kd.C (Kd.int .u32) w A0 l0.length l0) (hc0 : l0.length ≤ c0) (hr1 : Kd.C (Kd.int .u32) w A1 l1.length l1) (hc1 : l1.length ≤ c1) (h : pelorusref01_Div.f k l0 l1 = some (r1, r2, r3)) :
  Calls Tryd.prog 70 #[.slice A0 l0.length c0, .slice A1 l1.length c1] w fun e w' => ∃ v0_ v1_ : Value, e = .returned (.tuple #[v0_, v1_, .bool r3]) ∧ Kd.R (Kd.int .u32) 51 w' w.heap.size (fun k_ => some k_ ≠ (v1_ : Value).ownBlock) v0_ r1 ∧ Kd.R (Kd.int .u32) 51 w' w.heap.size (fun k_ => some k_ ≠ (v0_ : Value).ownBlock) v1_ r2 ∧ Below w.heap.size w w' := by
 have HR0 := Aside0.mk hr0
 have HC0 := Aside0.mk hc0
 clear hr0 hc0
 have HR1 := Aside0.mk hr1
 have HC1 := Aside0.mk hc1
 clear hr1 hc1
 have HB := Aside0.mk (Below.refl w.heap.size w)
 have H : ((pelorusref01_Trim.f k l1).bind fun t502 => (if (t502.length : Int) = 0 then (some (([] : List Int), ([] : List Int), false)) else ((pelorusref01_Len.f k l0).bind fun t505 => (pelorusref01_Div.l0 k l0 t502 ([] : List Int) ([] : List Int) (wrap64 (t505 - 1)))))) = some (r1, r2, r3) := h
 clear h
 replace H := Option.bind_eq_some_iff.mp H
 obtain ⟨t502, A30, H⟩ := H
 (try dsimp only at H)
 have A3 := Aside0.mk A30
 clear A30
 by_cases c4 : (t502.length : Int) = 0
 ·rw [if_pos c4] at H
  have c4b0 : ((t502.length : Int) == 0) = true := beq_iff_eq.mpr c4
  have c4b1 : ((t502.length : Int) != 0) = false := bne_eq_false_iff_eq.mpr c4
  clear c4
  simp only [Option.some.injEq, Prod.mk.injEq] at H
  obtain ⟨rfl, rfl, rfl⟩ := H
  go_enter Tryd.func70, Tryd.ntmps70
  go_wp2_with (first | ((with_reducible refine gate_callee (f := 69) rfl ?_); refine gl_ (some 15) Tryd.func69 #[.slice A1 l1.length c1] ?_; (with_reducible refine (pelorusref01_Trim.calls k _ _ l1 t502 _ ?side1 ?side2 A3.out).mono ?_); (case side1 => exact kc_ HR1.out); (case side2 => exact HC1.out); rintro e w5 ⟨v503, rfl, ho0, hb⟩; refine ⟨_, rfl, ?_⟩; have HO504 := Aside0.mk (Kd.R_lower ho0 (below_size (bw_ HB.out))); replace HB := bq_ HB hb; (try clear hb); (try clear hb2); (try clear hk); (try clear hi); (try clear ho0); obtain ⟨Ao6, co6, eo6⟩ := Kd.R_slice HO504.out; subst eo6))
  go_ret3
  exact ⟨_, _, rf_, by first | exact Kd.R_nil _ _ _ _ _ | exact Kd.N_nil _ _ _ _ _ | exact Kd.V_nil _ _ _ _ _ | exact Kd.Q_nil _ _ _ _ _ | exact Kd.S_nil _ _ _ _ _, by first | exact Kd.R_nil _ _ _ _ _ | exact Kd.N_nil _ _ _ _ _ | exact Kd.V_nil _ _ _ _ _ | exact Kd.Q_nil _ _ _ _ _ | exact Kd.S_nil _ _ _ _ _, bw_ HB.out⟩
 ·rw [if_neg c4] at H
  have c4b0 : ((t502.length : Int) == 0) = false := beq_eq_false_iff_ne.mpr c4
  have c4b1 : ((t502.length : Int) != 0) = true := bne_iff_ne.mpr c4
  have c4b2 : ¬ (t502 = []) := fun h_ => c4 (by rw [h_]; rfl)
  replace H := Option.bind_eq_some_iff.mp H
  obtain ⟨t505, A70, H⟩ := H
  (try dsimp only at H)
  have A7 := Aside0.mk A70
  clear A70
  have H' := Aside0.mk H
  clear H
  go_enter Tryd.func70, Tryd.ntmps70
  go_wp2_with (first | ((with_reducible refine gate_callee (f := 69) rfl ?_); refine gl_ (some 15) Tryd.func69 #[.slice A1 l1.length c1] ?_; (with_reducible refine (pelorusref01_Trim.calls k _ _ l1 t502 _ ?side1 ?side2 A3.out).mono ?_); (case side1 => exact kc_ HR1.out); (case side2 => exact HC1.out); rintro e w8 ⟨v503, rfl, ho0, hb⟩; refine ⟨_, rfl, ?_⟩; have HO504 := Aside0.mk (Kd.R_lower ho0 (below_size (bw_ HB.out))); replace HB := bq_ HB hb; (try clear hb); (try clear hb2); (try clear hk); (try clear hi); (try clear ho0); obtain ⟨Ao9, co9, eo9⟩ := Kd.R_slice HO504.out; subst eo9) | ((with_reducible refine gate_callee (f := 79) rfl ?_); refine gl_ (some 20) Tryd.func79 #[.slice A0 l0.length c0] ?_; (with_reducible refine (pelorusref01_Len.calls k _ _ l0 t505 _ ?side1 ?side2 A7.out).mono ?_); (case side1 => exact kc_ (Kd.C_below HR0.out HB.out)); (case side2 => exact HC0.out); rintro e w10 ⟨rfl, hb⟩; refine ⟨_, rfl, ?_⟩; replace HO504 := Aside0.mk (Kd.R_below (kr_ HO504.out) hb); replace HB := bq_ HB hb; (try clear hb); (try clear hb2); (try clear hk); (try clear hi)))
  go_loopg [8, 9, 10] k (fun kq v8 v9 v10 w' => ∃ (x8_1 : List Int) (x9_1 : List Int) (x10_1 : Int), v10 = .int .i64 x10_1 ∧ Aside0 (pelorusref01_Div.l0 kq l0 t502 x8_1 x9_1 x10_1 = some (r1, r2, r3)) ∧ Aside0 (kq ≤ k) ∧ Aside0 (Kd.R (Kd.int .u32) 51 w' w.heap.size (fun k_ => some k_ ≠ (v8 : Value).ownBlock ∧ some k_ ≠ (v9 : Value).ownBlock) (.slice Ao9 t502.length co9) t502) ∧ Aside0 (Kd.R (Kd.int .u32) 51 w' w.heap.size (fun k_ => some k_ ≠ ((.slice Ao9 t502.length co9) : Value).ownBlock ∧ some k_ ≠ (v9 : Value).ownBlock) v8 x8_1) ∧ Aside0 (Kd.R (Kd.int .u32) 51 w' w.heap.size (fun k_ => some k_ ≠ ((.slice Ao9 t502.length co9) : Value).ownBlock ∧ some k_ ≠ (v8 : Value).ownBlock) v9 x9_1) ∧ Aside0 (Below w.heap.size w w'))
  case atStart => exact ⟨(([] : List Int)), (([] : List Int)), (wrap64 (t505 - 1)), (by first | rfl | (simp; done) | (simp [*]; done)), H', ⟨Nat.le_refl _⟩, ⟨by (with_reducible repeat (first | apply Kd.R_alloc | apply Kd.R_drewN | apply Kd.R_drew)); exact Kd.R_mono HO504.out (fun _ hk => ⟨(by simp [Value.ownBlock]), (by simp [Value.ownBlock])⟩)⟩, ⟨by first | exact Kd.R_nil _ _ _ _ _ | exact Kd.N_nil _ _ _ _ _ | exact Kd.V_nil _ _ _ _ _ | exact Kd.Q_nil _ _ _ _ _ | exact Kd.S_nil _ _ _ _ _⟩, ⟨by first | exact Kd.R_nil _ _ _ _ _ | exact Kd.N_nil _ _ _ _ _ | exact Kd.V_nil _ _ _ _ _ | exact Kd.Q_nil _ _ _ _ _ | exact Kd.S_nil _ _ _ _ _⟩, ⟨bw_ HB.out⟩⟩
  case round =>
   clear H'
   try clear c1
   try clear p2
   try clear c4
   try clear c4b0
   try clear c4b1
   try clear c4b2
   try clear c6
   try clear p6
   try clear c7
   obtain ⟨x8_1, x9_1, x10_1, rfl, HA, HK1, HO_7, HO_8, HO_9, HB⟩ := hrel
   cases gk with
   | zero => exact absurd HA.out (by simp [pelorusref01_Div.l0])
   | succ k1 =>
    have H := HA.out
    clear HA
    simp only [pelorusref01_Div.l0] at H
    by_cases c11 : x10_1 ≥ 0
    ·rw [if_pos c11] at H
     have c11b0 : decide (0 ≤ x10_1) = true := decide_eq_true c11
     clear c11
     replace H := Option.bind_eq_some_iff.mp H
     obtain ⟨t512, A120, H⟩ := H
     (try dsimp only at H)
     have A12 := Aside0.mk A120
     clear A120
     replace H := Option.bind_eq_some_iff.mp H
     obtain ⟨t515, A130, H⟩ := H
     (try dsimp only at H)
     have A13 := Aside0.mk A130
     clear A130
     have HC14 := Aside0.mk H
     clear H
     obtain ⟨Ao15, co15, eo15⟩ := Kd.R_slice HO_9.out
     subst eo15
     go_upto_if 32 with (first | ((with_reducible refine gate_callee (f := 80) rfl ?_); refine gl_ (some 28) Tryd.func80 #[.slice Ao15 x9_1.length co15, .slice Ao15 x9_1.length co15] ?_; (with_reducible refine (pelorusref01_Add.calls k1 _ _ x9_1 _ _ x9_1 t512 _ ?side1 ?side2 ?side3 ?side4 A12.out).mono ?_); (case side1 => exact kc_ (Kd.R_reads' HO_9.out).2.2); (case side2 => exact (Kd.R_reads' HO_9.out).2.1); (case side3 => exact kc_ (Kd.R_reads' HO_9.out).2.2); (case side4 => exact (Kd.R_reads' HO_9.out).2.1); rintro e w16 ⟨v513, rfl, ho0, hb⟩; refine ⟨_, rfl, ?_⟩; have HO514 := Aside0.mk (Kd.R_lower (Kd.R_new' (Kd.R_new' (Kd.R_new' ho0 (Kd.R_lt (kr_ HO_7.out))) (Kd.R_lt (kr_ HO_8.out))) (Kd.R_lt (kr_ HO_9.out))) (below_size (bw_ HB.out))); replace HO_7 := Aside0.mk (Kd.R_elder' (kr_ HO_7.out) (Kd.R_base ho0) hb); replace HO_8 := Aside0.mk (Kd.R_elder' (kr_ HO_8.out) (Kd.R_base ho0) hb); replace HO_9 := Aside0.mk (Kd.R_elder' (kr_ HO_9.out) (Kd.R_base ho0) hb); replace HB := bq_ HB hb; (try clear hb); (try clear hb2); (try clear hk); (try clear hi); (try clear ho0)) | ((with_reducible refine gate_callee (f := 81) rfl ?_); refine gl_ (some 31) Tryd.func81 #[.slice A0 l0.length c0, .int .i64 x10_1] ?_; (with_reducible refine (pelorusref01_bit.calls _ _ l0 x10_1 t515 _ ?side1 ?side2 A13.out).mono ?_); (case side1 => exact kc_ (Kd.C_below HR0.out HB.out)); (case side2 => exact HC0.out); rintro e w' ⟨rfl, ⟨nd, rfl⟩⟩; refine ⟨_, rfl, ?_⟩))
     (try simp only [Act.put, List.setIfInBounds_toArray, List.set_cons_zero, List.set_cons_succ])
     go_cut [9] (fun v9 wc => ∃ (kq : Nat) (x9_13 : List Int), Aside0 (pelorusref01_Div.j1 kq l0 t502 x8_1 x9_13 x10_1 = some (r1, r2, r3)) ∧ Aside0 (kq ≤ k1) ∧ Aside0 (Kd.R (Kd.int .u32) 51 wc w.heap.size (fun k_ => some k_ ≠ (u8 : Value).ownBlock ∧ some k_ ≠ (v9 : Value).ownBlock) (.slice Ao9 t502.length co9) t502) ∧ Aside0 (Kd.R (Kd.int .u32) 51 wc w.heap.size (fun k_ => some k_ ≠ ((.slice Ao9 t502.length co9) : Value).ownBlock ∧ some k_ ≠ (v9 : Value).ownBlock) u8 x8_1) ∧ Aside0 (Kd.R (Kd.int .u32) 51 wc w.heap.size (fun k_ => some k_ ≠ ((.slice Ao9 t502.length co9) : Value).ownBlock ∧ some k_ ≠ (u8 : Value).ownBlock) v9 x9_13) ∧ Aside0 (Below w.heap.size w wc))
     case first =>
      have H := HC14.out
      clear HC14
      by_cases c17 : t515 = true
      ·subst c17
       have H1 : ((pelorusref01_Add.f k1 t512 (([1] : List Int))).bind fun t519 => (pelorusref01_Div.j1 k1 l0 t502 x8_1 t519 x10_1)) = some (r1, r2, r3) := by rw [if_pos rfl] at H; exact H
       clear H
       have H := H1
       clear H1
       obtain ⟨y516, hy516⟩ : ∃ y_ : List Int, y_ = (([1] : List Int)) := ⟨_, rfl⟩
       replace H : ((pelorusref01_Add.f k1 t512 y516).bind fun t519 => (pelorusref01_Div.j1 k1 l0 t502 x8_1 t519 x10_1)) = some (r1, r2, r3) := by first | (rw [hy516]; with_reducible exact H) | (have H2_ := (Option.bind_some _ _).symm.trans H; rw [hy516]; with_reducible exact H2_) | (have H2_ := (Option.bind_some _ _).symm.trans H; with_reducible exact H2_) | with_reducible exact H | (rw [hy516]; exact H) | exact H
       have Ny516 := Aside0.mk hy516
       clear hy516
       replace H := Option.bind_eq_some_iff.mp H
       obtain ⟨t519, A180, H⟩ := H
       (try dsimp only at H)
       have A18 := Aside0.mk A180
       clear A180
       have H' := Aside0.mk H
       clear H
       go_wp2_with (first | ((with_reducible refine gate_dst (N := 34) rfl ?_); refine Kd.R_lit (Kd.int .u32) _ 51 ?hg (N := 34) ?hd (xs := ([1] : List Int)) (inner := [.int .u32 1]) (ok := fun _ => True) (okp := fun _ => True) ?hr ?hp (fun _ hk => hk) trivial (Below.refl _ _) (Nat.le_refl _) (by simp) ?_; (case hd => rfl); (case hg => rfl); (case hr => first | (go_simp; done) | (go_simp; rfl)); (case hp => exact (Reps.one (show Kd.M (Kd.int .u32) _ _ _ 1 [.int .u32 1] from rfl) (Reps.none _ _))); intro v517 w19 ho20 hb hg_ hnew_; clear hg_ hnew_; (first | rw [← Ny516.out] at ho20 | (simp only [Int.reduceToNat] at ho20; rw [← Ny516.out] at ho20)); have HO518 := Aside0.mk (Kd.R_lower (Kd.R_new' (Kd.R_new' (Kd.R_new' (Kd.R_new' ho20 (Kd.R_lt (kr_ HO_7.out))) (Kd.R_lt (kr_ HO_8.out))) (Kd.R_lt (kr_ HO_9.out))) (Kd.R_lt (kr_ HO514.out))) (below_size (bw_ HB.out))); replace HO_7 := Aside0.mk (Kd.R_elder' (kr_ HO_7.out) (Kd.R_base ho20) hb); replace HO_8 := Aside0.mk (Kd.R_elder' (kr_ HO_8.out) (Kd.R_base ho20) hb); replace HO_9 := Aside0.mk (Kd.R_elder' (kr_ HO_9.out) (Kd.R_base ho20) hb); replace HO514 := Aside0.mk (Kd.R_elder' (kr_ HO514.out) (Kd.R_base ho20) hb); replace HB := bq_ HB hb; clear hb ho20; obtain ⟨Ao21, co21, eo21⟩ := Kd.R_slice HO514.out; subst eo21; obtain ⟨Ao22, co22, eo22⟩ := Kd.R_slice HO518.out; subst eo22) | ((with_reducible refine gate_callee (f := 80) rfl ?_); refine gl_ (some 35) Tryd.func80 #[.slice Ao21 t512.length co21, .slice Ao22 y516.length co22] ?_; (with_reducible refine (pelorusref01_Add.calls k1 _ _ t512 _ _ y516 t519 _ ?side1 ?side2 ?side3 ?side4 A18.out).mono ?_); (case side1 => exact kc_ (Kd.R_reads' HO514.out).2.2); (case side2 => exact (Kd.R_reads' HO514.out).2.1); (case side3 => exact kc_ (Kd.R_reads' HO518.out).2.2); (case side4 => exact (Kd.R_reads' HO518.out).2.1); rintro e w23 ⟨v520, rfl, ho0, hb⟩; refine ⟨_, rfl, ?_⟩; have HO521 := Aside0.mk (Kd.R_lower (Kd.R_new' (Kd.R_new' (Kd.R_new' (Kd.R_new' (Kd.R_new' ho0 (Kd.R_lt (kr_ HO_7.out))) (Kd.R_lt (kr_ HO_8.out))) (Kd.R_lt (kr_ HO_9.out))) (Kd.R_lt (kr_ HO514.out))) (Kd.R_lt (kr_ HO518.out))) (below_size (bw_ HB.out))); replace HO_7 := Aside0.mk (Kd.R_elder' (kr_ HO_7.out) (Kd.R_base ho0) hb); replace HO_8 := Aside0.mk (Kd.R_elder' (kr_ HO_8.out) (Kd.R_base ho0) hb); replace HO_9 := Aside0.mk (Kd.R_elder' (kr_ HO_9.out) (Kd.R_base ho0) hb); replace HO514 := Aside0.mk (Kd.R_elder' (kr_ HO514.out) (Kd.R_base ho0) hb); replace HO518 := Aside0.mk (Kd.R_elder' (kr_ HO518.out) (Kd.R_base ho0) hb); replace HB := bq_ HB hb; (try clear hb); (try clear hb2); (try clear hk); (try clear hi); (try clear ho0)))
       go_meet
       case rel => exact ⟨_, (t519), H', ⟨by have := HK1.out; first | omega | exact Nat.le_refl _⟩, ⟨by (with_reducible repeat (first | apply Kd.R_alloc | apply Kd.R_drewN | apply Kd.R_drew)); exact Kd.R_mono HO_7.out (fun _ hk => by first | exact ⟨hk.1.1.1.1, hk.2⟩ | (simp only [ob_map] at hk ⊢; exact ⟨hk.1.1.1.1, hk.2⟩))⟩, ⟨by (with_reducible repeat (first | apply Kd.R_alloc | apply Kd.R_drewN | apply Kd.R_drew)); exact Kd.R_mono HO_8.out (fun _ hk => by first | exact ⟨hk.1.1.1.1, hk.2⟩ | (simp only [ob_map] at hk ⊢; exact ⟨hk.1.1.1.1, hk.2⟩))⟩, ⟨by (with_reducible repeat (first | apply Kd.R_alloc | apply Kd.R_drewN | apply Kd.R_drew)); exact Kd.R_mono HO521.out (fun _ hk => by first | exact ⟨hk.1.1.1.1.2, hk.1.1.1.2⟩ | (simp only [ob_map] at hk ⊢; exact ⟨hk.1.1.1.1.2, hk.1.1.1.2⟩))⟩, ⟨bw_ HB.out⟩⟩
      ·replace c17 := Bool.eq_false_iff.mpr c17
       subst c17
       have H1 : (pelorusref01_Div.j1 k1 l0 t502 x8_1 t512 x10_1) = some (r1, r2, r3) := by rw [if_neg (show ¬ (false = true) by decide)] at H; exact H
       clear H
       have H := H1
       clear H1
       have H' := Aside0.mk H
       clear H
       go_wp2
       go_meet
       case rel => exact ⟨_, (t512), H', ⟨by have := HK1.out; first | omega | exact Nat.le_refl _⟩, ⟨by (with_reducible repeat (first | apply Kd.R_alloc | apply Kd.R_drewN | apply Kd.R_drew)); exact Kd.R_mono HO_7.out (fun _ hk => by first | exact ⟨hk.1.1, hk.2⟩ | (simp only [ob_map] at hk ⊢; exact ⟨hk.1.1, hk.2⟩))⟩, ⟨by (with_reducible repeat (first | apply Kd.R_alloc | apply Kd.R_drewN | apply Kd.R_drew)); exact Kd.R_mono HO_8.out (fun _ hk => by first | exact ⟨hk.1.1, hk.2⟩ | (simp only [ob_map] at hk ⊢; exact ⟨hk.1.1, hk.2⟩))⟩, ⟨by (with_reducible repeat (first | apply Kd.R_alloc | apply Kd.R_drewN | apply Kd.R_drew)); exact Kd.R_mono HO514.out (fun _ hk => by first | exact ⟨hk.1.1.2, hk.1.2⟩ | (simp only [ob_map] at hk ⊢; exact ⟨hk.1.1.2, hk.1.2⟩))⟩, ⟨bw_ HB.out⟩⟩
     case rest =>
      clear HC14
      try clear c1
      try clear p2
      try clear c4
      try clear c4b0
      try clear c4b1
      try clear c4b2
      try clear c6
      try clear p6
      try clear c7
      try clear c8
      try clear c11
      try clear c11b0
      try clear c17
      try clear p2
      try clear p6
      obtain ⟨kq, x9_13, HA, HJ13, HO_7, HO_8, HO_9, HB⟩ := hcut
      cases kq with
      | zero => exact absurd HA.out (by simp [pelorusref01_Div.j1])
      | succ kj13 =>
       have H := HA.out
       clear HA
       simp only [pelorusref01_Div.j1] at H
       replace H := Option.bind_eq_some_iff.mp H
       obtain ⟨⟨t522, t523⟩, A240, H⟩ := H
       (try dsimp only at H)
       have A24 := Aside0.mk A240
       clear A240
       by_cases c25 : t523 = true
       ·subst c25
        have H1 : ((pelorusref01_set.f kj13 x8_1 x10_1).bind fun t526 => (pelorusref01_Div.l0 kj13 l0 t502 t526 t522 (wrap64 (x10_1 - 1)))) = some (r1, r2, r3) := by rw [if_pos rfl] at H; exact H
        clear H
        have H := H1
        clear H1
        replace H := Option.bind_eq_some_iff.mp H
        obtain ⟨t526, A260, H⟩ := H
        (try dsimp only at H)
        have A26 := Aside0.mk A260
        clear A260
        have H' := Aside0.mk H
        clear H
        obtain ⟨Ao27, co27, eo27⟩ := Kd.R_slice HO_9.out
        subst eo27
        go_wp2_with (first | ((with_reducible refine gate_callee (f := 82) rfl ?_); refine gl_ (some 39) Tryd.func82 #[.slice Ao27 x9_13.length co27, .slice Ao9 t502.length co9] ?_; (with_reducible refine (pelorusref01_Sub.calls kj13 _ _ x9_13 _ _ t502 t522 true _ ?side1 ?side2 ?side3 ?side4 A24.out).mono ?_); (case side1 => exact kc_ (Kd.R_reads' HO_9.out).2.2); (case side2 => exact (Kd.R_reads' HO_9.out).2.1); (case side3 => exact kc_ (Kd.R_reads' HO_7.out).2.2); (case side4 => exact (Kd.R_reads' HO_7.out).2.1); rintro e w28 ⟨v524, rfl, ho0, hb⟩; refine ⟨_, rfl, ?_⟩; have HO525 := Aside0.mk (Kd.R_lower (Kd.R_new' (Kd.R_new' (Kd.R_new' ho0 (Kd.R_lt (kr_ HO_7.out))) (Kd.R_lt (kr_ HO_8.out))) (Kd.R_lt (kr_ HO_9.out))) (below_size (bw_ HB.out))); replace HO_7 := Aside0.mk (Kd.R_elder' (kr_ HO_7.out) (Kd.R_base ho0) hb); replace HO_8 := Aside0.mk (Kd.R_elder' (kr_ HO_8.out) (Kd.R_base ho0) hb); replace HO_9 := Aside0.mk (Kd.R_elder' (kr_ HO_9.out) (Kd.R_base ho0) hb); replace HB := bq_ HB hb; (try clear hb); (try clear hb2); (try clear hk); (try clear hi); (try clear ho0); obtain ⟨Ao29, co29, eo29⟩ := Kd.R_slice HO_8.out; subst eo29) | ((with_reducible refine gate_callee (f := 83) rfl ?_); refine gl_ (some 46) Tryd.func83 #[.slice Ao29 x8_1.length co29, .int .i64 x10_1] ?_; (with_reducible refine (pelorusref01_set.calls kj13 _ _ x8_1 x10_1 t526 _ ?side1 ?side2 A26.out).mono ?_); (case side1 => exact kc_ (Kd.R_reads' HO_8.out).2.2); (case side2 => exact (Kd.R_reads' HO_8.out).2.1); rintro e w30 ⟨v527, rfl, ho0, hb⟩; refine ⟨_, rfl, ?_⟩; have HO528 := Aside0.mk (Kd.R_lower (Kd.R_new' (Kd.R_new' (Kd.R_new' (Kd.R_new' ho0 (Kd.R_lt (kr_ HO_7.out))) (Kd.R_lt (kr_ HO_8.out))) (Kd.R_lt (kr_ HO_9.out))) (Kd.R_lt (kr_ HO525.out))) (below_size (bw_ HB.out))); replace HO_7 := Aside0.mk (Kd.R_elder' (kr_ HO_7.out) (Kd.R_base ho0) hb); replace HO_8 := Aside0.mk (Kd.R_elder' (kr_ HO_8.out) (Kd.R_base ho0) hb); replace HO_9 := Aside0.mk (Kd.R_elder' (kr_ HO_9.out) (Kd.R_base ho0) hb); replace HO525 := Aside0.mk (Kd.R_elder' (kr_ HO525.out) (Kd.R_base ho0) hb); replace HB := bq_ HB hb; (try clear hb); (try clear hb2); (try clear hk); (try clear hi); (try clear ho0)))
        go_roundg kj13
        case measure => have := HK1.out; have := HJ13.out; omega
        case rel => exact ⟨(t526), (t522), (wrap64 (x10_1 - 1)), (by first | rfl | (simp; done) | (simp [*]; done)), H', ⟨by have := HK1.out; have := HJ13.out; omega⟩, ⟨by (with_reducible repeat (first | apply Kd.R_alloc | apply Kd.R_drewN | apply Kd.R_drew)); exact Kd.R_mono HO_7.out (fun _ hk => by first | exact ⟨hk.2, hk.1.2⟩ | (simp only [ob_map] at hk ⊢; exact ⟨hk.2, hk.1.2⟩))⟩, ⟨by (with_reducible repeat (first | apply Kd.R_alloc | apply Kd.R_drewN | apply Kd.R_drew)); exact Kd.R_mono HO528.out (fun _ hk => by first | exact ⟨hk.1.1.1.2, hk.2⟩ | (simp only [ob_map] at hk ⊢; exact ⟨hk.1.1.1.2, hk.2⟩))⟩, ⟨by (with_reducible repeat (first | apply Kd.R_alloc | apply Kd.R_drewN | apply Kd.R_drew)); exact Kd.R_mono HO525.out (fun _ hk => by first | exact ⟨hk.1.1.1.2, hk.2⟩ | (simp only [ob_map] at hk ⊢; exact ⟨hk.1.1.1.2, hk.2⟩))⟩, ⟨bw_ HB.out⟩⟩
       ·replace c25 := Bool.eq_false_iff.mpr c25
        subst c25
        have H1 : (pelorusref01_Div.l0 kj13 l0 t502 x8_1 x9_13 (wrap64 (x10_1 - 1))) = some (r1, r2, r3) := by rw [if_neg (show ¬ (false = true) by decide)] at H; exact H
        clear H
        have H := H1
        clear H1
        have H' := Aside0.mk H
        clear H
        obtain ⟨Ao31, co31, eo31⟩ := Kd.R_slice HO_9.out
        subst eo31
        go_wp2_with (first | ((with_reducible refine gate_callee (f := 82) rfl ?_); refine gl_ (some 39) Tryd.func82 #[.slice Ao31 x9_13.length co31, .slice Ao9 t502.length co9] ?_; (with_reducible refine (pelorusref01_Sub.calls kj13 _ _ x9_13 _ _ t502 t522 false _ ?side1 ?side2 ?side3 ?side4 A24.out).mono ?_); (case side1 => exact kc_ (Kd.R_reads' HO_9.out).2.2); (case side2 => exact (Kd.R_reads' HO_9.out).2.1); (case side3 => exact kc_ (Kd.R_reads' HO_7.out).2.2); (case side4 => exact (Kd.R_reads' HO_7.out).2.1); rintro e w32 ⟨v524, rfl, ho0, hb⟩; refine ⟨_, rfl, ?_⟩; have HO525 := Aside0.mk (Kd.R_lower (Kd.R_new' (Kd.R_new' (Kd.R_new' ho0 (Kd.R_lt (kr_ HO_7.out))) (Kd.R_lt (kr_ HO_8.out))) (Kd.R_lt (kr_ HO_9.out))) (below_size (bw_ HB.out))); replace HO_7 := Aside0.mk (Kd.R_elder' (kr_ HO_7.out) (Kd.R_base ho0) hb); replace HO_8 := Aside0.mk (Kd.R_elder' (kr_ HO_8.out) (Kd.R_base ho0) hb); replace HO_9 := Aside0.mk (Kd.R_elder' (kr_ HO_9.out) (Kd.R_base ho0) hb); replace HB := bq_ HB hb; (try clear hb); (try clear hb2); (try clear hk); (try clear hi); (try clear ho0)))
        go_roundg kj13
        case measure => have := HK1.out; have := HJ13.out; omega
        case rel => exact ⟨(x8_1), (x9_13), (wrap64 (x10_1 - 1)), (by first | rfl | (simp; done) | (simp [*]; done)), H', ⟨by have := HK1.out; have := HJ13.out; omega⟩, ⟨by (with_reducible repeat (first | apply Kd.R_alloc | apply Kd.R_drewN | apply Kd.R_drew)); exact Kd.R_mono HO_7.out (fun _ hk => by first | exact ⟨hk.1.1, hk.1.2⟩ | (simp only [ob_map] at hk ⊢; exact ⟨hk.1.1, hk.1.2⟩))⟩, ⟨by (with_reducible repeat (first | apply Kd.R_alloc | apply Kd.R_drewN | apply Kd.R_drew)); exact Kd.R_mono HO_8.out (fun _ hk => by first | exact ⟨hk.1.1, hk.1.2⟩ | (simp only [ob_map] at hk ⊢; exact ⟨hk.1.1, hk.1.2⟩))⟩, ⟨by (with_reducible repeat (first | apply Kd.R_alloc | apply Kd.R_drewN | apply Kd.R_drew)); exact Kd.R_mono HO_9.out (fun _ hk => by first | exact ⟨hk.1.1, hk.1.2⟩ | (simp only [ob_map] at hk ⊢; exact ⟨hk.1.1, hk.1.2⟩))⟩, ⟨bw_ HB.out⟩⟩
    ·rw [if_neg c11] at H
     have c11b0 : decide (0 ≤ x10_1) = false := decide_eq_false c11
     clear c11
     replace H := Option.bind_eq_some_iff.mp H
     obtain ⟨t506, A330, H⟩ := H
     (try dsimp only at H)
     have A33 := Aside0.mk A330
     clear A330
     replace H := Option.bind_eq_some_iff.mp H
     obtain ⟨t509, A340, H⟩ := H
     (try dsimp only at H)
     have A34 := Aside0.mk A340
     clear A340
     simp only [Option.some.injEq, Prod.mk.injEq] at H
     obtain ⟨rfl, rfl, rfl⟩ := H
     obtain ⟨Ao35, co35, eo35⟩ := Kd.R_slice HO_8.out
     subst eo35
     go_wp2_with (first | ((with_reducible refine gate_callee (f := 69) rfl ?_); refine gl_ (some 48) Tryd.func69 #[.slice Ao35 x8_1.length co35] ?_; (with_reducible refine (pelorusref01_Trim.calls k1 _ _ x8_1 t506 _ ?side1 ?side2 A33.out).mono ?_); (case side1 => exact kc_ (Kd.R_reads' HO_8.out).2.2); (case side2 => exact (Kd.R_reads' HO_8.out).2.1); rintro e w36 ⟨v507, rfl, ho0, hb⟩; refine ⟨_, rfl, ?_⟩; have HO508 := Aside0.mk (Kd.R_lower (Kd.R_new' (Kd.R_new' (Kd.R_new' ho0 (Kd.R_lt (kr_ HO_7.out))) (Kd.R_lt (kr_ HO_8.out))) (Kd.R_lt (kr_ HO_9.out))) (below_size (bw_ HB.out))); replace HO_7 := Aside0.mk (Kd.R_elder' (kr_ HO_7.out) (Kd.R_base ho0) hb); replace HO_8 := Aside0.mk (Kd.R_elder' (kr_ HO_8.out) (Kd.R_base ho0) hb); replace HO_9 := Aside0.mk (Kd.R_elder' (kr_ HO_9.out) (Kd.R_base ho0) hb); replace HB := bq_ HB hb; (try clear hb); (try clear hb2); (try clear hk); (try clear hi); (try clear ho0); obtain ⟨Ao37, co37, eo37⟩ := Kd.R_slice HO_9.out; subst eo37) | ((with_reducible refine gate_callee (f := 69) rfl ?_); refine gl_ (some 50) Tryd.func69 #[.slice Ao37 x9_1.length co37] ?_; (with_reducible refine (pelorusref01_Trim.calls k1 _ _ x9_1 t509 _ ?side1 ?side2 A34.out).mono ?_); (case side1 => exact kc_ (Kd.R_reads' HO_9.out).2.2); (case side2 => exact (Kd.R_reads' HO_9.out).2.1); rintro e w38 ⟨v510, rfl, ho0, hb⟩; refine ⟨_, rfl, ?_⟩; have HO511 := Aside0.mk (Kd.R_lower (Kd.R_new' (Kd.R_new' (Kd.R_new' (Kd.R_new' ho0 (Kd.R_lt (kr_ HO_7.out))) (Kd.R_lt (kr_ HO_8.out))) (Kd.R_lt (kr_ HO_9.out))) (Kd.R_lt (kr_ HO508.out))) (below_size (bw_ HB.out))); replace HO_7 := Aside0.mk (Kd.R_elder' (kr_ HO_7.out) (Kd.R_base ho0) hb); replace HO_8 := Aside0.mk (Kd.R_elder' (kr_ HO_8.out) (Kd.R_base ho0) hb); replace HO_9 := Aside0.mk (Kd.R_elder' (kr_ HO_9.out) (Kd.R_base ho0) hb); replace HO508 := Aside0.mk (Kd.R_elder' (kr_ HO508.out) (Kd.R_base ho0) hb); replace HB := bq_ HB hb; (try clear hb); (try clear hb2); (try clear hk); (try clear hi); (try clear ho0)))
     go_ret3
     exact ⟨_, _, rf_, by (with_reducible repeat (first | apply Kd.R_alloc | apply Kd.R_drewN | apply Kd.R_drew)); exact Kd.R_mono HO508.out (fun _ hk => hk.2), by (with_reducible repeat (first | apply Kd.R_alloc | apply Kd.R_drewN | apply Kd.R_drew)); exact Kd.R_mono HO511.out (fun _ hk => hk.2), bw_ HB.out⟩

/-! ### pelorusref01_Shr: function 45 -/
set_option maxHeartbeats 8000000 in
set_option maxRecDepth 100000 in
theorem pelorusref01_Shr.calls (k : Nat) (A0 : Option Addr) (c0 : Nat) (l0 : List Int) (a1 : Int) (r : List Int) (w : World) (hr0 : Kd.C (Kd.int .u32) w A0 l0.length l0) (hc0 : l0.length ≤ c0) (h : pelorusref01_Shr.f k l0 a1 = some r) :
  Calls Tryd.prog 45 #[.slice A0 l0.length c0, .int .i64 a1] w fun e w' => ∃ v0_ : Value, e = .returned (v0_) ∧ Kd.R (Kd.int .u32) 51 w' w.heap.size (fun _ => True) v0_ r ∧ Below w.heap.size w w' := by
 have HR0 := Aside0.mk hr0
 have HC0 := Aside0.mk hc0
 clear hr0 hc0
 have HB := Aside0.mk (Below.refl w.heap.size w)
 have H : (if a1 < 1 then ((pelorusref01_Trim.f k l0).bind fun t529 => (some t529)) else (if a1 ≥ (wrap64 (32 * (l0.length : Int))) then (some ([] : List Int)) else (if 0 ≤ (wrap64 (Int.tdiv a1 32)) then (if (wrap64 (Int.tdiv a1 32)) ≤ (l0.length : Int) then ((pelorusref01_Trim.f k (l0.drop ((wrap64 (Int.tdiv a1 32)) : Int).toNat)).bind fun t533 => (if 0 ≤ (IntKind.u64.wrap (Int.tmod a1 32)) then ((pelorusref01_Div.f k t533 (([shl .u32 1 (IntKind.u64.wrap (Int.tmod a1 32))] : List Int))).bind fun bt539 => (some bt539.1)) else (none))) else (none)) else (none)))) = some r := h
 clear h
 by_cases c3 : a1 < 1
 ·rw [if_pos c3] at H
  have c3b0 : decide (a1 < 1) = true := decide_eq_true c3
  clear c3
  replace H := Option.bind_eq_some_iff.mp H
  obtain ⟨t529, A40, H⟩ := H
  (try dsimp only at H)
  have A4 := Aside0.mk A40
  clear A40
  obtain rfl := Option.some.inj H
  go_enter Tryd.func45, Tryd.ntmps45
  go_wp2_with (first | ((with_reducible refine gate_callee (f := 69) rfl ?_); refine gl_ (some 12) Tryd.func69 #[.slice A0 l0.length c0] ?_; (with_reducible refine (pelorusref01_Trim.calls k _ _ l0 t529 _ ?side1 ?side2 A4.out).mono ?_); (case side1 => exact kc_ HR0.out); (case side2 => exact HC0.out); rintro e w5 ⟨v530, rfl, ho0, hb⟩; refine ⟨_, rfl, ?_⟩; have HO531 := Aside0.mk (Kd.R_lower ho0 (below_size (bw_ HB.out))); replace HB := bq_ HB hb; (try clear hb); (try clear hb2); (try clear hk); (try clear hi); (try clear ho0)))
  go_ret
  exact ⟨_, rf_, by (with_reducible repeat (first | apply Kd.R_alloc | apply Kd.R_drewN | apply Kd.R_drew)); exact HO531.out, bw_ HB.out⟩
 ·rw [if_neg c3] at H
  have c3b0 : decide (a1 < 1) = false := decide_eq_false c3
  clear c3
  by_cases c6 : a1 ≥ (wrap64 (32 * (l0.length : Int)))
  ·rw [if_pos c6] at H
   have c6b0 : decide ((wrap64 (32 * (l0.length : Int))) ≤ a1) = true := decide_eq_true c6
   clear c6
   obtain rfl := Option.some.inj H
   go_enter Tryd.func45, Tryd.ntmps45
   go_wp2
   go_ret
   exact ⟨_, rf_, by first | exact Kd.R_nil _ _ _ _ _ | exact Kd.N_nil _ _ _ _ _ | exact Kd.V_nil _ _ _ _ _ | exact Kd.Q_nil _ _ _ _ _ | exact Kd.S_nil _ _ _ _ _, bw_ HB.out⟩
  ·rw [if_neg c6] at H
   have c6b0 : decide ((wrap64 (32 * (l0.length : Int))) ≤ a1) = false := decide_eq_false c6
   clear c6
   obtain ⟨ji7, hji7⟩ : ∃ j_ : Int, (wrap64 (Int.tdiv a1 32)) = j_ := ⟨_, rfl⟩
   (first | rw [hji7] at H | simp only [hji7] at H)
   have hji7w : (IntKind.i64.wrap (Int.tdiv a1 32)) = ji7 := (i64_w _).trans hji7
   by_cases c8 : 0 ≤ (ji7)
   ·rw [if_pos c8] at H
    have c8b0 := eq_true c8
    have c8b1 : decide (0 ≤ (ji7)) = true := decide_eq_true c8
    clear c8
    by_cases c9 : (ji7) ≤ (l0.length : Int)
    ·rw [if_pos c9] at H
     have c9b0 := eq_true c9
     have c9b1 : decide ((ji7) ≤ (l0.length : Int)) = true := decide_eq_true c9
     clear c9
     replace H := Option.bind_eq_some_iff.mp H
     obtain ⟨t533, A100, H⟩ := H
     (try dsimp only at H)
     have A10 := Aside0.mk A100
     clear A100
     obtain ⟨ji11, hji11⟩ : ∃ j_ : Int, (IntKind.u64.wrap (Int.tmod a1 32)) = j_ := ⟨_, rfl⟩
     (first | rw [hji11] at H | simp only [hji11] at H)
     (try rw [hji11] at A10)
     by_cases c12 : 0 ≤ (ji11)
     ·rw [if_pos c12] at H
      have c12b0 := eq_true c12
      have c12b1 : decide (0 ≤ (ji11)) = true := decide_eq_true c12
      clear c12
      obtain ⟨ji13, hji13⟩ : ∃ j_ : Int, (shl .u32 1 (ji11)) = j_ := ⟨_, rfl⟩
      (first | rw [hji13] at H | simp only [hji13] at H)
      (try rw [hji13] at A10)
      have hji13_ : (IntKind.u32.wrap (1 * 2 ^ min (ji11).toNat 32)) = ji13 := hji13
      have hji13z : (ji11) ≤ 32 → (IntKind.u32.wrap (1 * 2 ^ (ji11).toNat)) = ji13 := shl_small hji13
      have hji13u : (IntKind.u32.wrap (2 ^ min (ji11).toNat 32)) = ji13 := by have h_ := hji13_; rw [Int.one_mul] at h_; exact h_
      have hji13v : (ji11) ≤ 32 → (IntKind.u32.wrap (2 ^ (ji11).toNat)) = ji13 := fun hle_ => by have h_ := hji13z hle_; rw [Int.one_mul] at h_; exact h_
      obtain ⟨y536, hy536⟩ : ∃ y_ : List Int, y_ = (([ji13] : List Int)) := ⟨_, rfl⟩
      replace H : ((pelorusref01_Div.f k t533 y536).bind fun bt539 => (some bt539.1)) = some r := by first | (rw [hy536]; with_reducible exact H) | (have H2_ := (Option.bind_some _ _).symm.trans H; rw [hy536]; with_reducible exact H2_) | (have H2_ := (Option.bind_some _ _).symm.trans H; with_reducible exact H2_) | with_reducible exact H | (rw [hy536]; exact H) | exact H
      have Ny536 := Aside0.mk hy536
      clear hy536
      replace H := Option.bind_eq_some_iff.mp H
      obtain ⟨⟨t539, t540, t541⟩, A140, H⟩ := H
      (try dsimp only at H)
      have A14 := Aside0.mk A140
      clear A140
      obtain rfl := Option.some.inj H
      obtain ⟨i015, hi015, _, hsz15, _⟩ := info_parts info51
      obtain ⟨A15, hcut15, hA15, hC15⟩ := print_drop_of (P := Tryd.prog) (Value.int .u32) 0 22 51 .i64 Tryd.underlying22 hi015 hsz15 A0 c0 l0 (ji7) (of_decide_eq_true (by first | (with_reducible assumption) | assumption)) (of_decide_eq_true (by first | (with_reducible assumption) | assumption)) HC0.out
      have HR532 := Aside0.mk (Kd.C_of_reads (h1 := fun _ => rfl) (hA15 _ (Kd.reads_of_C HR0.out)))
      have HC532 := Aside0.mk hC15
      clear hA15 hC15 hi015 hsz15
      go_enter Tryd.func45, Tryd.ntmps45
      go_wp2_with (first | ((with_reducible refine gate_callee (f := 69) rfl ?_); refine goesL_ (some 22) rfl rfl Tryd.func69 (by kernel_rfl) rfl #[.slice A15 (l0.drop ((ji7) : Int).toNat).length (c0 - (ji7).toNat)] rfl (by (try simp only [List.map_toArray, List.map_cons, List.map_nil]); first | done | (rw [show (l0.drop ((ji7) : Int).toNat).length = (l0.length - (ji7).toNat) from List.length_drop] <;> rfl) | (simp only [hji7]; rfl) | rfl | (simp only [List.length_drop, List.length_take]; rfl)) ?_; (with_reducible refine (pelorusref01_Trim.calls k _ _ (l0.drop ((ji7) : Int).toNat) t533 _ ?side1 ?side2 A10.out).mono ?_); (case side1 => exact kc_ HR532.out); (case side2 => exact HC532.out); rintro e w16 ⟨v534, rfl, ho0, hb⟩; refine ⟨_, rfl, ?_⟩; have HO535 := Aside0.mk (Kd.R_lower ho0 (below_size (bw_ HB.out))); replace HB := bq_ HB hb; (try clear hb); (try clear hb2); (try clear hk); (try clear hi); (try clear ho0)) | ((with_reducible refine gate_dst (N := 29) rfl ?_); refine Kd.R_lit (Kd.int .u32) _ 51 ?hg (N := 29) ?hd (xs := ([ji13] : List Int)) (inner := [.int .u32 ji13]) (ok := fun _ => True) (okp := fun _ => True) ?hr ?hp (fun _ hk => hk) trivial (Below.refl _ _) (Nat.le_refl _) (by simp) ?_; (case hd => rfl); (case hg => rfl); (case hr => first | (go_simp; done) | (go_simp; rfl)); (case hp => exact (Reps.one (show Kd.M (Kd.int .u32) _ _ _ ji13 [.int .u32 ji13] from rfl) (Reps.none _ _))); intro v537 w17 ho18 hb hg_ hnew_; clear hg_ hnew_; (first | rw [← Ny536.out] at ho18 | (simp only [Int.reduceToNat] at ho18; rw [← Ny536.out] at ho18)); have HO538 := Aside0.mk (Kd.R_lower (Kd.R_new' ho18 (Kd.R_lt (kr_ HO535.out))) (below_size (bw_ HB.out))); replace HO535 := Aside0.mk (Kd.R_elder' (kr_ HO535.out) (Kd.R_base ho18) hb); replace HB := bq_ HB hb; clear hb ho18; obtain ⟨Ao19, co19, eo19⟩ := Kd.R_slice HO535.out; subst eo19; obtain ⟨Ao20, co20, eo20⟩ := Kd.R_slice HO538.out; subst eo20) | ((with_reducible refine gate_callee (f := 70) rfl ?_); refine gl_ (some 30) Tryd.func70 #[.slice Ao19 t533.length co19, .slice Ao20 y536.length co20] ?_; (with_reducible refine (pelorusref01_Div.calls k _ _ t533 _ _ y536 t539 t540 t541 _ ?side1 ?side2 ?side3 ?side4 A14.out).mono ?_); (case side1 => exact kc_ (Kd.R_reads' HO535.out).2.2); (case side2 => exact (Kd.R_reads' HO535.out).2.1); (case side3 => exact kc_ (Kd.R_reads' HO538.out).2.2); (case side4 => exact (Kd.R_reads' HO538.out).2.1); rintro e w21 ⟨v542, v544, rfl, ho0, ho1, hb⟩; refine ⟨_, rfl, ?_⟩; have HO543 := Aside0.mk (Kd.R_lower (Kd.R_new' (Kd.R_new' ho0 (Kd.R_lt (kr_ HO535.out))) (Kd.R_lt (kr_ HO538.out))) (below_size (bw_ HB.out))); have HO545 := Aside0.mk (Kd.R_lower (Kd.R_new' (Kd.R_new' ho1 (Kd.R_lt (kr_ HO535.out))) (Kd.R_lt (kr_ HO538.out))) (below_size (bw_ HB.out))); replace HO535 := Aside0.mk (Kd.R_mono (Kd.R_told (Kd.R_told (Kd.R_old (kr_ HO535.out) hb) (Kd.R_base ho0)) (Kd.R_base ho1)) (fun _ h_ => h_.1)); replace HO538 := Aside0.mk (Kd.R_mono (Kd.R_told (Kd.R_told (Kd.R_old (kr_ HO538.out) hb) (Kd.R_base ho0)) (Kd.R_base ho1)) (fun _ h_ => h_.1)); replace HB := bq_ HB hb; (try clear hb); (try clear hb2); (try clear hk); (try clear hi); (try clear ho0); (try clear ho1)))
      go_ret
      exact ⟨_, by first | rfl | (simp [errW_none, errW_some] <;> rfl) | (simp only [← hji7, ← hji11, ← hji13]; first | rfl | (simp [errW_none, errW_some] <;> rfl)) | (simp [*, errW_none, errW_some] <;> rfl), by (with_reducible repeat (first | apply Kd.R_alloc | apply Kd.R_drewN | apply Kd.R_drew)); exact Kd.R_mono HO543.out (fun _ hk => trivial), bw_ HB.out⟩
     ·rw [if_neg c12] at H
      exact absurd H (by simp)
    ·rw [if_neg c9] at H
     exact absurd H (by simp)
   ·rw [if_neg c8] at H
    exact absurd H (by simp)

end Go.Proofs.YtaookeneeemfbaaDoor.PA
