-- Laid by this work's own program; Lean checks it.
import Derived.Test.YtkemnoejpbknhaaDoorPAx0
import Derived.Test.YtkemnoejpbknhaaDoorPAx2
namespace Go.Proofs.YtkemnoejpbknhaaDoor.PA
open Go.RowKit Go.Proofs.YtkemnoejpbknhaaDoorW.PrintWords Go.Proofs.YtkemnoejpbknhaaDoorW.PrintLast Go.Proofs.YtkemnoejpbknhaaDoorW.PrintMore
attribute [local go_sem] max2_int min2_int max_two min_two max_three min_three max_four min_four   -- for this text's walks alone
set_option linter.unusedVariables false
set_option linter.unusedSimpArgs false

attribute [local go_sem ↓ high] isSome_set_
/-! ### pelorusref01_Trim: function 70 -/
set_option maxHeartbeats 8000000 in
set_option maxRecDepth 100000 in
theorem pelorusref01_Trim.calls (k : Nat) (A0 : Option Addr) (c0 : Nat) (l0 : List Int) (r : List Int) (w : World) (hr0 : Kd.C (Kd.int .u32) w A0 l0.length l0) (hc0 : l0.length ≤ c0) (h : pelorusref01_Trim.f k l0 = some r) :
  Calls Tryd.prog 70 #[.slice A0 l0.length c0] w fun e w' => ∃ v0_ : Value, e = .returned (v0_) ∧ Kd.R (Kd.int .u32) 53 w' w.heap.size (fun _ => True) v0_ r ∧ Below w.heap.size w w' := by
 have HR0 := Aside0.mk hr0
 have HC0 := Aside0.mk hc0
 clear hr0 hc0
 have HB := Aside0.mk (Below.refl w.heap.size w)
 have H : (pelorusref01_Trim.l0 k l0 (l0.length : Int)) = some r := h
 clear h
 have H' := Aside0.mk H
 clear H
 go_enter Tryd.func70, Tryd.ntmps70
 go_wp2
 go_loopg [3] k (fun kq v3 w' => ∃ (x3_1 : Int), v3 = .int .i64 x3_1 ∧ Aside0 (pelorusref01_Trim.l0 kq l0 x3_1 = some r) ∧ Aside0 (kq ≤ k) ∧ Aside0 (Below w.heap.size w w'))
 case atStart => exact ⟨((l0.length : Int)), (by first | rfl | (simp; done) | (simp [*]; done)), H', ⟨Nat.le_refl _⟩, ⟨bw_ HB.out⟩⟩
 case round =>
  clear H'
  obtain ⟨x3_1, rfl, HA, HK1, HB⟩ := hrel
  cases gk with
  | zero => exact absurd HA.out (by simp [pelorusref01_Trim.l0])
  | succ k1 =>
   have H := HA.out
   clear HA
   simp only [pelorusref01_Trim.l0] at H
   by_cases c2 : x3_1 > 0
   ·rw [if_pos c2] at H
    have c2b0 : decide (0 < x3_1) = true := decide_eq_true c2
    clear c2
    obtain ⟨ji3, hji3⟩ : ∃ j_ : Int, (wrap64 (x3_1 - 1)) = j_ := ⟨_, rfl⟩
    (first | rw [hji3] at H | simp only [hji3] at H)
    have hji3w : (IntKind.i64.wrap (x3_1 - 1)) = ji3 := (i64_w _).trans hji3
    by_cases c4 : 0 ≤ (ji3)
    ·rw [if_pos c4] at H
     have c4b0 : decide (0 ≤ (ji3)) = true := decide_eq_true c4
     clear c4
     by_cases c5 : (ji3) < (l0.length : Int)
     ·rw [if_pos c5] at H
      have c5b0 : decide ((ji3) < (l0.length : Int)) = true := decide_eq_true c5
      clear c5
      by_cases c6 : (rd l0 (ji3)) = 0
      ·rw [if_pos c6] at H
       have c6b0 : ((rd l0 (ji3)) == 0) = true := beq_iff_eq.mpr c6
       have c6b1 : ((rd l0 (ji3)) != 0) = false := bne_eq_false_iff_eq.mpr c6
       clear c6
       have H' := Aside0.mk H
       clear H
       have p279 : 0 ≤ ((ji3) : Int) := of_decide_eq_true (by first | (with_reducible assumption) | assumption)
       have q279 : (ji3) < (l0.length : Int) := of_decide_eq_true (by first | (with_reducible assumption) | assumption)
       obtain ⟨ad279, e279, hx279_0⟩ := Kd.at_int HR0.out (ji3) p279 q279
       cases e279
       replace hx279_0 := (HB.out.cell (World.block_lt_of_cell? w _ hx279_0)).trans hx279_0
       replace p279 := eq_true p279
       replace q279 := eq_true q279
       go_wp2
       go_roundg k1
       case measure => have := HK1.out; omega
       case rel => exact ⟨(ji3), (by first | rfl | (simp; done) | (simp only [← hji3] <;> (first | rfl | simp)) | (simp [*]; done)), H', ⟨by have := HK1.out; omega⟩, ⟨bw_ HB.out⟩⟩
      ·rw [if_neg c6] at H
       have c6b0 : ((rd l0 (ji3)) == 0) = false := beq_eq_false_iff_ne.mpr c6
       have c6b1 : ((rd l0 (ji3)) != 0) = true := bne_iff_ne.mpr c6
       by_cases c7 : 0 ≤ x3_1
       ·rw [if_pos c7] at H
        have c7b0 := eq_true c7
        have c7b1 : decide (0 ≤ x3_1) = true := decide_eq_true c7
        clear c7
        by_cases c8 : x3_1 ≤ (l0.length : Int)
        ·rw [if_pos c8] at H
         have c8b0 := eq_true c8
         have c8b1 : decide (x3_1 ≤ (l0.length : Int)) = true := decide_eq_true c8
         clear c8
         by_cases c9 : ([] : List Int).length + (l0.take (x3_1 : Int).toNat).length < 35184372088832
         ·rw [if_pos c9] at H
          have LMc9 := Aside0.mk c9
          clear c9
          obtain ⟨y281, hy281⟩ : ∃ y_ : List Int, y_ = (([] : List Int) ++ (l0.take (x3_1 : Int).toNat)) := ⟨_, rfl⟩
          replace H : (some y281) = some r := by first | (rw [hy281]; with_reducible exact H) | (have H2_ := (Option.bind_some _ _).symm.trans H; rw [hy281]; with_reducible exact H2_) | (have H2_ := (Option.bind_some _ _).symm.trans H; with_reducible exact H2_) | with_reducible exact H | (rw [hy281]; exact H) | exact H
          have Ny281 := Aside0.mk hy281
          clear hy281
          obtain rfl := Option.some.inj H
          have p279 : 0 ≤ ((ji3) : Int) := of_decide_eq_true (by first | (with_reducible assumption) | assumption)
          have q279 : (ji3) < (l0.length : Int) := of_decide_eq_true (by first | (with_reducible assumption) | assumption)
          obtain ⟨ad279, e279, hx279_0⟩ := Kd.at_int HR0.out (ji3) p279 q279
          cases e279
          replace hx279_0 := (HB.out.cell (World.block_lt_of_cell? w _ hx279_0)).trans hx279_0
          replace p279 := eq_true p279
          replace q279 := eq_true q279
          obtain ⟨i010, hi010, _, hsz10, _⟩ := info_parts info53
          obtain ⟨hcut10, hA10, hC10⟩ := print_take_of (P := Tryd.prog) (Value.int .u32) 0 22 53 .i64 Tryd.underlying22 hi010 hsz10 (some ad279) c0 l0 x3_1 (of_decide_eq_true (by first | (with_reducible assumption) | assumption)) (of_decide_eq_true (by first | (with_reducible assumption) | assumption)) HC0.out
          have HR280 := Aside0.mk (Kd.C_of_reads (h1 := fun _ => rfl) (hA10 _ (Kd.reads_of_C HR0.out)))
          have HC280 := Aside0.mk hC10
          clear hA10 hC10 hi010 hsz10
          go_wp2_with (first | ((with_reducible refine gate_builtin (b := .append) (xs := #[.const (.slice none 0 0), .tmp 20]) rfl ?_); at_builtin; refine Kd.R_append_rows (Kd.int .u32) (w0 := w) w.heap.size rfl (.const (.slice none 0 0)) (.tmp 20) 22 53 (.int .u32 0) 4 rfl Tryd.underlying22 info53 rfl (by decide) (by omega) (.slice none 0 0) ([] : List Int) (l0.take (x3_1 : Int).toNat) _ _ _ (fun _ => True) (fun _ => False) rfl rfl ?aO ?aR (fun _ _ h => h) (fun _ h => h.elim) ?aF ?aB ?aS ?aL ?_; (case aR => first | (refine rr_len (show (l0.take (x3_1 : Int).toNat).length = x3_1.toNat from (by rw [List.length_take]; have h_ : (x3_1 : Int) ≤ (l0.length : Int) := of_decide_eq_true (by first | (with_reducible assumption) | assumption); omega)) ?_; repeat (first | exact (Kd.C_below HR280.out HB.out) | (with_reducible refine Kd.C_alloc ?_ _) | (with_reducible refine Kd.C_drewN ?_ _) | (with_reducible refine Kd.C_drew ?_))) | (repeat (first | exact (Kd.C_below HR280.out HB.out) | (with_reducible refine Kd.C_alloc ?_ _) | (with_reducible refine Kd.C_drewN ?_ _) | (with_reducible refine Kd.C_drew ?_)))); (case aB => exact (bw_ HB.out)); (case aF => exact (fun _ _ => trivial)); (case aO => exact ((Kd.R_nil _ _ _ _ (fun _ => True)))); (case aS => exact (below_size (bw_ HB.out))); (case aL => have := LMc9.out; have hlx_ := (show (l0.take (x3_1 : Int).toNat).length = x3_1.toNat from (by rw [List.length_take]; have h_ : (x3_1 : Int) ≤ (l0.length : Int) := of_decide_eq_true (by first | (with_reducible assumption) | assumption); omega)); omega); intro v282 w11 ho hb hg hat; rw [← Ny281.out] at ho; have HO283 := Aside0.mk (ho); replace HB := Aside0.mk (hb); clear ho hb hg hat))
          go_ret
          exact ⟨_, by first | rfl | (simp [errW_none, errW_some] <;> rfl) | (simp only [← hji3]; first | rfl | (simp [errW_none, errW_some] <;> rfl)) | (simp [*, errW_none, errW_some] <;> rfl), by (with_reducible repeat (first | apply Kd.R_alloc | apply Kd.R_drewN | apply Kd.R_drew)); exact HO283.out, bw_ HB.out⟩
         ·rw [if_neg c9] at H
          exact absurd H (by simp)
        ·rw [if_neg c8] at H
         exact absurd H (by simp)
       ·rw [if_neg c7] at H
        exact absurd H (by simp)
     ·rw [if_neg c5] at H
      exact absurd H (by simp)
    ·rw [if_neg c4] at H
     exact absurd H (by simp)
   ·rw [if_neg c2] at H
    have c2b0 : decide (0 < x3_1) = false := decide_eq_false c2
    clear c2
    by_cases c12 : 0 ≤ x3_1
    ·rw [if_pos c12] at H
     have c12b0 := eq_true c12
     have c12b1 : decide (0 ≤ x3_1) = true := decide_eq_true c12
     clear c12
     by_cases c13 : x3_1 ≤ (l0.length : Int)
     ·rw [if_pos c13] at H
      have c13b0 := eq_true c13
      have c13b1 : decide (x3_1 ≤ (l0.length : Int)) = true := decide_eq_true c13
      clear c13
      by_cases c14 : ([] : List Int).length + (l0.take (x3_1 : Int).toNat).length < 35184372088832
      ·rw [if_pos c14] at H
       have LMc14 := Aside0.mk c14
       clear c14
       obtain ⟨y285, hy285⟩ : ∃ y_ : List Int, y_ = (([] : List Int) ++ (l0.take (x3_1 : Int).toNat)) := ⟨_, rfl⟩
       replace H : (some y285) = some r := by first | (rw [hy285]; with_reducible exact H) | (have H2_ := (Option.bind_some _ _).symm.trans H; rw [hy285]; with_reducible exact H2_) | (have H2_ := (Option.bind_some _ _).symm.trans H; with_reducible exact H2_) | with_reducible exact H | (rw [hy285]; exact H) | exact H
       have Ny285 := Aside0.mk hy285
       clear hy285
       obtain rfl := Option.some.inj H
       obtain ⟨i015, hi015, _, hsz15, _⟩ := info_parts info53
       obtain ⟨hcut15, hA15, hC15⟩ := print_take_of (P := Tryd.prog) (Value.int .u32) 0 22 53 .i64 Tryd.underlying22 hi015 hsz15 A0 c0 l0 x3_1 (of_decide_eq_true (by first | (with_reducible assumption) | assumption)) (of_decide_eq_true (by first | (with_reducible assumption) | assumption)) HC0.out
       have HR284 := Aside0.mk (Kd.C_of_reads (h1 := fun _ => rfl) (hA15 _ (Kd.reads_of_C HR0.out)))
       have HC284 := Aside0.mk hC15
       clear hA15 hC15 hi015 hsz15
       go_wp2_with (first | ((with_reducible refine gate_builtin (b := .append) (xs := #[.const (.slice none 0 0), .tmp 20]) rfl ?_); at_builtin; refine Kd.R_append_rows (Kd.int .u32) (w0 := w) w.heap.size rfl (.const (.slice none 0 0)) (.tmp 20) 22 53 (.int .u32 0) 4 rfl Tryd.underlying22 info53 rfl (by decide) (by omega) (.slice none 0 0) ([] : List Int) (l0.take (x3_1 : Int).toNat) _ _ _ (fun _ => True) (fun _ => False) rfl rfl ?aO ?aR (fun _ _ h => h) (fun _ h => h.elim) ?aF ?aB ?aS ?aL ?_; (case aR => first | (refine rr_len (show (l0.take (x3_1 : Int).toNat).length = x3_1.toNat from (by rw [List.length_take]; have h_ : (x3_1 : Int) ≤ (l0.length : Int) := of_decide_eq_true (by first | (with_reducible assumption) | assumption); omega)) ?_; repeat (first | exact (Kd.C_below HR284.out HB.out) | (with_reducible refine Kd.C_alloc ?_ _) | (with_reducible refine Kd.C_drewN ?_ _) | (with_reducible refine Kd.C_drew ?_))) | (repeat (first | exact (Kd.C_below HR284.out HB.out) | (with_reducible refine Kd.C_alloc ?_ _) | (with_reducible refine Kd.C_drewN ?_ _) | (with_reducible refine Kd.C_drew ?_)))); (case aB => exact (bw_ HB.out)); (case aF => exact (fun _ _ => trivial)); (case aO => exact ((Kd.R_nil _ _ _ _ (fun _ => True)))); (case aS => exact (below_size (bw_ HB.out))); (case aL => have := LMc14.out; have hlx_ := (show (l0.take (x3_1 : Int).toNat).length = x3_1.toNat from (by rw [List.length_take]; have h_ : (x3_1 : Int) ≤ (l0.length : Int) := of_decide_eq_true (by first | (with_reducible assumption) | assumption); omega)); omega); intro v286 w16 ho hb hg hat; rw [← Ny285.out] at ho; have HO287 := Aside0.mk (ho); replace HB := Aside0.mk (hb); clear ho hb hg hat))
       go_ret
       exact ⟨_, rf_, by (with_reducible repeat (first | apply Kd.R_alloc | apply Kd.R_drewN | apply Kd.R_drew)); exact HO287.out, bw_ HB.out⟩
      ·rw [if_neg c14] at H
       exact absurd H (by simp)
     ·rw [if_neg c13] at H
      exact absurd H (by simp)
    ·rw [if_neg c12] at H
     exact absurd H (by simp)

/-! ### pelorusref01_Len: function 45 -/
set_option maxHeartbeats 8000000 in
set_option maxRecDepth 100000 in
theorem pelorusref01_Len.calls (k : Nat) (A0 : Option Addr) (c0 : Nat) (l0 : List Int) (r : Int) (w : World) (hr0 : Kd.C (Kd.int .u32) w A0 l0.length l0) (hc0 : l0.length ≤ c0) (h : pelorusref01_Len.f k l0 = some r) :
  Calls Tryd.prog 45 #[.slice A0 l0.length c0] w fun e w' => e = .returned (.int .i64 r) ∧ Below w.heap.size w w' := by
 have HR0 := Aside0.mk hr0
 have HC0 := Aside0.mk hc0
 clear hr0 hc0
 have HB := Aside0.mk (Below.refl w.heap.size w)
 have H : ((pelorusref01_Trim.f k l0).bind fun t288 => (if (t288.length : Int) = 0 then (some 0) else (if 0 ≤ (wrap64 ((t288.length : Int) - 1)) then (if (wrap64 ((t288.length : Int) - 1)) < (t288.length : Int) then (pelorusref01_Len.l0 k (wrap64 (32 * (wrap64 ((t288.length : Int) - 1)))) (rd t288 (wrap64 ((t288.length : Int) - 1)))) else (none)) else (none)))) = some r := h
 clear h
 replace H := Option.bind_eq_some_iff.mp H
 obtain ⟨t288, A20, H⟩ := H
 (try dsimp only at H)
 have A2 := Aside0.mk A20
 clear A20
 by_cases c3 : (t288.length : Int) = 0
 ·rw [if_pos c3] at H
  have c3b0 : ((t288.length : Int) == 0) = true := beq_iff_eq.mpr c3
  have c3b1 : ((t288.length : Int) != 0) = false := bne_eq_false_iff_eq.mpr c3
  clear c3
  obtain rfl := Option.some.inj H
  go_enter Tryd.func45, Tryd.ntmps45
  go_wp2_with (first | ((with_reducible refine gate_callee (f := 70) rfl ?_); refine gl_ (some 7) Tryd.func70 #[.slice A0 l0.length c0] ?_; (with_reducible refine (pelorusref01_Trim.calls k _ _ l0 t288 _ ?side1 ?side2 A2.out).mono ?_); (case side1 => exact kc_ HR0.out); (case side2 => exact HC0.out); rintro e w4 ⟨v289, rfl, ho0, hb⟩; refine ⟨_, rfl, ?_⟩; have HO290 := Aside0.mk (Kd.R_lower ho0 (below_size (bw_ HB.out))); replace HB := bq_ HB hb; (try clear hb); (try clear hb2); (try clear hk); (try clear hi); (try clear ho0); obtain ⟨Ao5, co5, eo5⟩ := Kd.R_slice HO290.out; subst eo5))
  go_ret
  exact ⟨rf_, bw_ HB.out⟩
 ·rw [if_neg c3] at H
  have c3b0 : ((t288.length : Int) == 0) = false := beq_eq_false_iff_ne.mpr c3
  have c3b1 : ((t288.length : Int) != 0) = true := bne_iff_ne.mpr c3
  have c3b2 : ¬ (t288 = []) := fun h_ => c3 (by rw [h_]; rfl)
  obtain ⟨ji6, hji6⟩ : ∃ j_ : Int, (wrap64 ((t288.length : Int) - 1)) = j_ := ⟨_, rfl⟩
  (first | rw [hji6] at H | simp only [hji6] at H)
  (try rw [hji6] at A2)
  have hji6w : (IntKind.i64.wrap ((t288.length : Int) - 1)) = ji6 := (i64_w _).trans hji6
  by_cases c7 : 0 ≤ (ji6)
  ·rw [if_pos c7] at H
   have c7b0 : decide (0 ≤ (ji6)) = true := decide_eq_true c7
   clear c7
   by_cases c8 : (ji6) < (t288.length : Int)
   ·rw [if_pos c8] at H
    have c8b0 : decide ((ji6) < (t288.length : Int)) = true := decide_eq_true c8
    clear c8
    have H' := Aside0.mk H
    clear H
    go_enter Tryd.func45, Tryd.ntmps45
    go_wp2_with (first | ((with_reducible refine gate_callee (f := 70) rfl ?_); refine gl_ (some 7) Tryd.func70 #[.slice A0 l0.length c0] ?_; (with_reducible refine (pelorusref01_Trim.calls k _ _ l0 t288 _ ?side1 ?side2 A2.out).mono ?_); (case side1 => exact kc_ HR0.out); (case side2 => exact HC0.out); rintro e w9 ⟨v289, rfl, ho0, hb⟩; refine ⟨_, rfl, ?_⟩; have HO290 := Aside0.mk (Kd.R_lower ho0 (below_size (bw_ HB.out))); replace HB := bq_ HB hb; (try clear hb); (try clear hb2); (try clear hk); (try clear hi); (try clear ho0); obtain ⟨Ao10, co10, eo10⟩ := Kd.R_slice HO290.out; subst eo10; have p291 : 0 ≤ ((ji6) : Int) := of_decide_eq_true (by first | (with_reducible assumption) | assumption); have q291 : (ji6) < (t288.length : Int) := of_decide_eq_true (by first | (with_reducible assumption) | assumption); obtain ⟨ad291, e291, hx291_0⟩ := Kd.at_int (Kd.R_reads' HO290.out).2.2 (ji6) p291 q291; cases e291; replace p291 := eq_true p291; replace q291 := eq_true q291))
    go_loopg [4, 5] k (fun kq v4 v5 w' => ∃ (x4_1 : Int) (x5_1 : Int), v4 = .int .i64 x4_1 ∧ v5 = .int .u32 x5_1 ∧ Aside0 (pelorusref01_Len.l0 kq x4_1 x5_1 = some r) ∧ Aside0 (kq ≤ k) ∧ Aside0 (Below w.heap.size w w'))
    case atStart => exact ⟨(wrap64 (32 * (ji6))), (rd t288 (ji6)), (by first | rfl | (simp; done) | (simp only [← hji6] <;> (first | rfl | simp)) | (simp [*]; done)), (by first | rfl | (simp; done) | (simp only [← hji6] <;> (first | rfl | simp)) | (simp [*]; done)), H', ⟨Nat.le_refl _⟩, ⟨bw_ HB.out⟩⟩
    case round =>
     clear H'
     try clear p2
     try clear q2
     try clear hx2
     try clear c3
     try clear c3b0
     try clear c3b1
     try clear c3b2
     try clear c4
     try clear p6
     try clear c7
     try clear c7b0
     try clear c8
     try clear c8b0
     try clear hx291_0
     try clear p291
     try clear q291
     obtain ⟨x4_1, x5_1, rfl, rfl, HA, HK1, HB⟩ := hrel
     cases gk with
     | zero => exact absurd HA.out (by simp [pelorusref01_Len.l0])
     | succ k1 =>
      have H := HA.out
      clear HA
      simp only [pelorusref01_Len.l0] at H
      by_cases c11 : x5_1 > 0
      ·rw [if_pos c11] at H
       have c11b0 : decide (0 < x5_1) = true := decide_eq_true c11
       clear c11
       have H' := Aside0.mk H
       clear H
       go_wp2
       go_roundg k1
       case measure => have := HK1.out; omega
       case rel => exact ⟨(wrap64 (x4_1 + 1)), ((Int.tdiv x5_1 2) % 4294967296), (by first | rfl | (simp; done) | (simp [*]; done)), (by first | rfl | (simp; done) | (simp [*]; done)), H', ⟨by have := HK1.out; omega⟩, ⟨bw_ HB.out⟩⟩
      ·rw [if_neg c11] at H
       have c11b0 : decide (0 < x5_1) = false := decide_eq_false c11
       clear c11
       obtain rfl := Option.some.inj H
       go_wp2
       go_ret
       exact ⟨by first | rfl | (simp [errW_none, errW_some] <;> rfl) | (simp only [← hji6]; first | rfl | (simp [errW_none, errW_some] <;> rfl)) | (simp [*, errW_none, errW_some] <;> rfl), bw_ HB.out⟩
   ·rw [if_neg c8] at H
    exact absurd H (by simp)
  ·rw [if_neg c7] at H
   exact absurd H (by simp)

/-! ### pelorusref01_at: function 73 -/
set_option maxHeartbeats 8000000 in
set_option maxRecDepth 100000 in
theorem pelorusref01_at.calls (A0 : Option Addr) (c0 : Nat) (l0 : List Int) (a1 : Int) (r : Int) (w : World) (hr0 : Kd.C (Kd.int .u32) w A0 l0.length l0) (hc0 : l0.length ≤ c0) (h : pelorusref01_at.f l0 a1 = some r) :
  Calls Tryd.prog 73 #[.slice A0 l0.length c0, .int .i64 a1] w fun e w' => e = .returned (.int .u64 r) ∧ Drawn0 w w' := by
 have HR0 := Aside0.mk hr0
 have HC0 := Aside0.mk hc0
 clear hr0 hc0
 have H : (if a1 ≥ (l0.length : Int) then (some 0) else (if 0 ≤ a1 then (if a1 < (l0.length : Int) then (some (IntKind.u64.wrap (rd l0 a1))) else (none)) else (none))) = some r := h
 clear h
 by_cases c3 : a1 ≥ (l0.length : Int)
 ·rw [if_pos c3] at H
  have c3b0 : decide ((l0.length : Int) ≤ a1) = true := decide_eq_true c3
  clear c3
  obtain rfl := Option.some.inj H
  go_enter Tryd.func73, Tryd.ntmps73
  go_wp2
  go_ret
  exact ⟨by first | rfl | (simp; done) | (simp [*]; done), by repeat (first | exact Drawn0.refl _ | apply Drawn0.step)⟩
 ·rw [if_neg c3] at H
  have c3b0 : decide ((l0.length : Int) ≤ a1) = false := decide_eq_false c3
  clear c3
  by_cases c4 : 0 ≤ a1
  ·rw [if_pos c4] at H
   have c4b0 : decide (0 ≤ a1) = true := decide_eq_true c4
   clear c4
   by_cases c5 : a1 < (l0.length : Int)
   ·rw [if_pos c5] at H
    have c5b0 : decide (a1 < (l0.length : Int)) = true := decide_eq_true c5
    clear c5
    obtain rfl := Option.some.inj H
    have p292 : 0 ≤ (a1 : Int) := of_decide_eq_true (by first | (with_reducible assumption) | assumption)
    have q292 : a1 < (l0.length : Int) := of_decide_eq_true (by first | (with_reducible assumption) | assumption)
    obtain ⟨ad292, e292, hx292_0⟩ := Kd.at_int HR0.out a1 p292 q292
    cases e292
    replace p292 := eq_true p292
    replace q292 := eq_true q292
    go_enter Tryd.func73, Tryd.ntmps73
    go_wp2
    go_ret
    exact ⟨by first | rfl | (simp; done) | (simp [*]; done), by repeat (first | exact Drawn0.refl _ | apply Drawn0.step)⟩
   ·rw [if_neg c5] at H
    exact absurd H (by simp)
  ·rw [if_neg c4] at H
   exact absurd H (by simp)

/-! ### pelorusref01_Add: function 50 -/
set_option maxHeartbeats 8000000 in
set_option maxRecDepth 100000 in
theorem pelorusref01_Add.calls (k : Nat) (A0 : Option Addr) (c0 : Nat) (l0 : List Int) (A1 : Option Addr) (c1 : Nat) (l1 : List Int) (r : List Int) (w : World) (hr0 : Kd.C (Kd.int .u32) w A0 l0.length l0) (hc0 : l0.length ≤ c0) (hr1 : Kd.C (Kd.int .u32) w A1 l1.length l1) (hc1 : l1.length ≤ c1) (h : pelorusref01_Add.f k l0 l1 = some r) :
  Calls Tryd.prog 50 #[.slice A0 l0.length c0, .slice A1 l1.length c1] w fun e w' => ∃ v0_ : Value, e = .returned (v0_) ∧ Kd.R (Kd.int .u32) 53 w' w.heap.size (fun _ => True) v0_ r ∧ Below w.heap.size w w' := by
 have HR0 := Aside0.mk hr0
 have HC0 := Aside0.mk hc0
 clear hr0 hc0
 have HR1 := Aside0.mk hr1
 have HC1 := Aside0.mk hc1
 clear hr1 hc1
 have HB := Aside0.mk (Below.refl w.heap.size w)
 have H : (pelorusref01_Add.l0 k l0 l1 ([] : List Int) 0 0) = some r := h
 clear h
 have H' := Aside0.mk H
 clear H
 go_enter Tryd.func50, Tryd.ntmps50
 go_wp2
 go_loopg [5, 6, 7] k (fun kq v5 v6 v7 w' => ∃ (x5_1 : List Int) (x6_1 : Int) (x7_1 : Int), v6 = .int .u64 x6_1 ∧ v7 = .int .i64 x7_1 ∧ Aside0 (pelorusref01_Add.l0 kq l0 l1 x5_1 x6_1 x7_1 = some r) ∧ Aside0 (kq ≤ k) ∧ Aside0 (Kd.R (Kd.int .u32) 53 w' w.heap.size (fun _ => True) v5 x5_1) ∧ Aside0 (Below w.heap.size w w'))
 case atStart => exact ⟨(([] : List Int)), (0), (0), (by first | rfl | (simp; done) | (simp [*]; done)), (by first | rfl | (simp; done) | (simp [*]; done)), H', ⟨Nat.le_refl _⟩, ⟨by first | exact Kd.R_nil _ _ _ _ _ | exact Kd.N_nil _ _ _ _ _ | exact Kd.V_nil _ _ _ _ _ | exact Kd.Q_nil _ _ _ _ _ | exact Kd.S_nil _ _ _ _ _⟩, ⟨bw_ HB.out⟩⟩
 case round =>
  clear H'
  try clear c1
  try clear p2
  obtain ⟨x5_1, x6_1, x7_1, rfl, rfl, HA, HK1, HO_5, HB⟩ := hrel
  cases gk with
  | zero => exact absurd HA.out (by simp [pelorusref01_Add.l0])
  | succ k1 =>
   have H := HA.out
   clear HA
   simp only [pelorusref01_Add.l0] at H
   have HC3 := Aside0.mk H
   clear H
   go_upto_region 4 with (fail)
   go_cut [22] (fun v22 wc => ∃ (kq : Nat) (x22_2 : Bool), v22 = .bool x22_2 ∧ Aside0 (pelorusref01_Add.j1 kq l0 l1 x5_1 x6_1 x7_1 x22_2 = some r) ∧ Aside0 (kq ≤ k1) ∧ Aside0 (Kd.R (Kd.int .u32) 53 wc w.heap.size (fun _ => True) u5 x5_1) ∧ Aside0 (Below w.heap.size w wc))
   case first =>
    have H := HC3.out
    clear HC3
    by_cases c4 : x7_1 < (l0.length : Int)
    ·rw [if_pos c4] at H
     have c4b0 : decide (x7_1 < (l0.length : Int)) = true := decide_eq_true c4
     clear c4
     (first | rw [c4b0] | (simp only [i64_w, i32_w]; rw [c4b0]) | skip)
     have H' := Aside0.mk H
     clear H
     go_wp2
     go_meet
     case rel => exact ⟨_, (true), (by first | rfl | (simp; done) | (simp [*]; done)), H', ⟨by have := HK1.out; first | omega | exact Nat.le_refl _⟩, ⟨by (with_reducible repeat (first | apply Kd.R_alloc | apply Kd.R_drewN | apply Kd.R_drew)); exact HO_5.out⟩, ⟨bw_ HB.out⟩⟩
    ·rw [if_neg c4] at H
     have c4b0 : decide (x7_1 < (l0.length : Int)) = false := decide_eq_false c4
     clear c4
     (first | rw [c4b0] | (simp only [i64_w, i32_w]; rw [c4b0]) | skip)
     by_cases c5 : x7_1 < (l1.length : Int)
     ·rw [if_pos c5] at H
      have c5b0 : decide (x7_1 < (l1.length : Int)) = true := decide_eq_true c5
      clear c5
      have H' := Aside0.mk H
      clear H
      go_wp2
      go_meet
      case rel => exact ⟨_, (true), (by first | rfl | (simp; done) | (simp [*]; done)), H', ⟨by have := HK1.out; first | omega | exact Nat.le_refl _⟩, ⟨by (with_reducible repeat (first | apply Kd.R_alloc | apply Kd.R_drewN | apply Kd.R_drew)); exact HO_5.out⟩, ⟨bw_ HB.out⟩⟩
     ·rw [if_neg c5] at H
      have c5b0 : decide (x7_1 < (l1.length : Int)) = false := decide_eq_false c5
      clear c5
      have H' := Aside0.mk H
      clear H
      go_wp2
      go_meet
      case rel => exact ⟨_, (decide (x6_1 > 0)), (by first | rfl | (simp; done) | (simp [*]; done)), H', ⟨by have := HK1.out; first | omega | exact Nat.le_refl _⟩, ⟨by (with_reducible repeat (first | apply Kd.R_alloc | apply Kd.R_drewN | apply Kd.R_drew)); exact HO_5.out⟩, ⟨bw_ HB.out⟩⟩
   case rest =>
    clear HC3
    try clear c1
    try clear p2
    try clear c4
    try clear c4b0
    try clear c5
    try clear c5b0
    try clear p2
    obtain ⟨kq, x22_2, rfl, HA, HJ2, HO_5, HB⟩ := hcut
    cases kq with
    | zero => exact absurd HA.out (by simp [pelorusref01_Add.j1])
    | succ kj2 =>
     have H := HA.out
     clear HA
     simp only [pelorusref01_Add.j1] at H
     by_cases c6 : x22_2 = true
     ·subst c6
      have H1 : ((pelorusref01_at.f l0 x7_1).bind fun t293 => ((pelorusref01_at.f l1 x7_1).bind fun t294 => (if x5_1.length < 35184372088832 then (pelorusref01_Add.l0 kj2 l0 l1 (x5_1 ++ [(Int.tmod (IntKind.u64.wrap ((IntKind.u64.wrap (t293 + t294)) + x6_1)) 4294967296) % 4294967296]) (IntKind.u64.wrap (Int.tdiv (IntKind.u64.wrap ((IntKind.u64.wrap (t293 + t294)) + x6_1)) 4294967296)) (wrap64 (x7_1 + 1))) else (none)))) = some r := by rw [if_pos rfl] at H; exact H
      clear H
      have H := H1
      clear H1
      replace H := Option.bind_eq_some_iff.mp H
      obtain ⟨t293, A70, H⟩ := H
      (try dsimp only at H)
      have A7 := Aside0.mk A70
      clear A70
      replace H := Option.bind_eq_some_iff.mp H
      obtain ⟨t294, A80, H⟩ := H
      (try dsimp only at H)
      have A8 := Aside0.mk A80
      clear A80
      by_cases c9 : x5_1.length < 35184372088832
      ·rw [if_pos c9] at H
       have LMc9 := Aside0.mk c9
       clear c9
       obtain ⟨y295, hy295⟩ : ∃ y_ : List Int, y_ = (x5_1 ++ [(Int.tmod (IntKind.u64.wrap ((IntKind.u64.wrap (t293 + t294)) + x6_1)) 4294967296) % 4294967296]) := ⟨_, rfl⟩
       replace H : (pelorusref01_Add.l0 kj2 l0 l1 y295 (IntKind.u64.wrap (Int.tdiv (IntKind.u64.wrap ((IntKind.u64.wrap (t293 + t294)) + x6_1)) 4294967296)) (wrap64 (x7_1 + 1))) = some r := by first | (rw [hy295]; with_reducible exact H) | (have H2_ := (Option.bind_some _ _).symm.trans H; rw [hy295]; with_reducible exact H2_) | (have H2_ := (Option.bind_some _ _).symm.trans H; with_reducible exact H2_) | with_reducible exact H | (rw [hy295]; exact H) | exact H
       have Ny295 := Aside0.mk hy295
       clear hy295
       have H' := Aside0.mk H
       clear H
       go_wp2_with (first | ((with_reducible refine gate_callee (f := 73) rfl ?_); refine gl_ (some 27) Tryd.func73 #[.slice A0 l0.length c0, .int .i64 x7_1] ?_; (with_reducible refine (pelorusref01_at.calls _ _ l0 x7_1 t293 _ ?side1 ?side2 A7.out).mono ?_); (case side1 => exact kc_ (Kd.C_below HR0.out HB.out)); (case side2 => exact HC0.out); rintro e w' ⟨rfl, ⟨nd, rfl⟩⟩; refine ⟨_, rfl, ?_⟩) | ((with_reducible refine gate_callee (f := 73) rfl ?_); refine gl_ (some 30) Tryd.func73 #[.slice A1 l1.length c1, .int .i64 x7_1] ?_; (with_reducible refine (pelorusref01_at.calls _ _ l1 x7_1 t294 _ ?side1 ?side2 A8.out).mono ?_); (case side1 => exact kc_ (Kd.C_below HR1.out (bw_ HB.out))); (case side2 => exact HC1.out); rintro e w' ⟨rfl, ⟨nd, rfl⟩⟩; refine ⟨_, rfl, ?_⟩) | ((with_reducible refine gate_builtin (b := .append) (xs := #[.tmp 34, .tmp 38]) rfl ?_); (try (refine gate_guard (by rfl) ?_; dsimp only)); at_builtin; refine Kd.R_append (Kd.int .u32) (w0 := w) w.heap.size rfl (.tmp 34) (.tmp 38) 22 53 (.int .u32 0) 4 rfl Tryd.underlying22 info53 rfl (by decide) (by omega) u5 x5_1 ((Int.tmod (IntKind.u64.wrap ((IntKind.u64.wrap (t293 + t294)) + x6_1)) 4294967296) % 4294967296) [.int .u32 ((Int.tmod (IntKind.u64.wrap ((IntKind.u64.wrap (t293 + t294)) + x6_1)) 4294967296) % 4294967296)] (fun _ => True) (fun _ => False) rfl rfl ?aP (fun _ hk => hk.elim) ?aF ?aO ?aB ?aS ?aL ?_; (case aP => exact rfl); (case aB => exact (bw_ HB.out)); (case aF => exact (fun _ _ => trivial)); (case aO => exact (kr_ HO_5.out)); (case aS => exact (below_size (bw_ HB.out))); (case aL => have := LMc9.out; omega); intro v296 w10 ho hb hg hat; rw [← Ny295.out] at ho; have HO297 := Aside0.mk (ho); replace HB := Aside0.mk (hb); clear HO_5; clear ho hb hg hat))
       go_roundg kj2
       case measure => have := HK1.out; have := HJ2.out; omega
       case rel => exact ⟨(y295), (IntKind.u64.wrap (Int.tdiv (IntKind.u64.wrap ((IntKind.u64.wrap (t293 + t294)) + x6_1)) 4294967296)), (wrap64 (x7_1 + 1)), (by first | rfl | (simp; done) | (simp [*]; done)), (by first | rfl | (simp; done) | (simp [*]; done)), H', ⟨by have := HK1.out; have := HJ2.out; omega⟩, ⟨by (with_reducible repeat (first | apply Kd.R_alloc | apply Kd.R_drewN | apply Kd.R_drew)); exact HO297.out⟩, ⟨bw_ HB.out⟩⟩
      ·rw [if_neg c9] at H
       exact absurd H (by simp)
     ·replace c6 := Bool.eq_false_iff.mpr c6
      subst c6
      have H1 : ((pelorusref01_Trim.f kj2 x5_1).bind fun t298 => (some t298)) = some r := by rw [if_neg (show ¬ (false = true) by decide)] at H; exact H
      clear H
      have H := H1
      clear H1
      replace H := Option.bind_eq_some_iff.mp H
      obtain ⟨t298, A110, H⟩ := H
      (try dsimp only at H)
      have A11 := Aside0.mk A110
      clear A110
      obtain rfl := Option.some.inj H
      obtain ⟨Ao12, co12, eo12⟩ := Kd.R_slice HO_5.out
      subst eo12
      go_wp2_with (first | ((with_reducible refine gate_callee (f := 70) rfl ?_); refine gl_ (some 43) Tryd.func70 #[.slice Ao12 x5_1.length co12] ?_; (with_reducible refine (pelorusref01_Trim.calls kj2 _ _ x5_1 t298 _ ?side1 ?side2 A11.out).mono ?_); (case side1 => exact kc_ (Kd.R_reads' HO_5.out).2.2); (case side2 => exact (Kd.R_reads' HO_5.out).2.1); rintro e w13 ⟨v299, rfl, ho0, hb⟩; refine ⟨_, rfl, ?_⟩; have HO300 := Aside0.mk (Kd.R_lower (Kd.R_new' ho0 (Kd.R_lt (kr_ HO_5.out))) (below_size (bw_ HB.out))); replace HO_5 := Aside0.mk (Kd.R_elder' (kr_ HO_5.out) (Kd.R_base ho0) hb); replace HB := bq_ HB hb; (try clear hb); (try clear hb2); (try clear hk); (try clear hi); (try clear ho0)))
      go_ret
      exact ⟨_, rf_, by (with_reducible repeat (first | apply Kd.R_alloc | apply Kd.R_drewN | apply Kd.R_drew)); exact Kd.R_mono HO300.out (fun _ hk => trivial), bw_ HB.out⟩

/-! ### pelorusref01_bit: function 83 -/
set_option maxHeartbeats 8000000 in
set_option maxRecDepth 100000 in
theorem pelorusref01_bit.calls (A0 : Option Addr) (c0 : Nat) (l0 : List Int) (a1 : Int) (r : Bool) (w : World) (hr0 : Kd.C (Kd.int .u32) w A0 l0.length l0) (hc0 : l0.length ≤ c0) (h : pelorusref01_bit.f l0 a1 = some r) :
  Calls Tryd.prog 83 #[.slice A0 l0.length c0, .int .i64 a1] w fun e w' => e = .returned (.bool r) ∧ Drawn0 w w' := by
 have HR0 := Aside0.mk hr0
 have HC0 := Aside0.mk hc0
 clear hr0 hc0
 have H : ((pelorusref01_at.f l0 (wrap64 (Int.tdiv a1 32))).bind fun t301 => (if 0 ≤ (IntKind.u64.wrap (Int.tmod a1 32)) then (some ((Int.tmod (shr .u64 t301 (IntKind.u64.wrap (Int.tmod a1 32))) 2) == 1)) else (none))) = some r := h
 clear h
 replace H := Option.bind_eq_some_iff.mp H
 obtain ⟨t301, A30, H⟩ := H
 (try dsimp only at H)
 have A3 := Aside0.mk A30
 clear A30
 obtain ⟨ji4, hji4⟩ : ∃ j_ : Int, (IntKind.u64.wrap (Int.tmod a1 32)) = j_ := ⟨_, rfl⟩
 (first | rw [hji4] at H | simp only [hji4] at H)
 (try rw [hji4] at A3)
 by_cases c5 : 0 ≤ (ji4)
 ·rw [if_pos c5] at H
  have c5b0 := eq_true c5
  have c5b1 : decide (0 ≤ (ji4)) = true := decide_eq_true c5
  clear c5
  obtain ⟨ji6, hji6⟩ : ∃ j_ : Int, (shr .u64 t301 (ji4)) = j_ := ⟨_, rfl⟩
  (first | rw [hji6] at H | simp only [hji6] at H)
  (try rw [hji6] at A3)
  have hji6_ : (t301 / 2 ^ min (ji4).toNat 64) = ji6 := hji6
  have hji6z : (ji4) ≤ 64 → (t301 / 2 ^ (ji4).toNat) = ji6 := shr_small hji6
  obtain rfl := Option.some.inj H
  go_enter Tryd.func83, Tryd.ntmps83
  go_wp2_with (first | ((with_reducible refine gate_callee (f := 73) rfl ?_); refine gl_ (some 8) Tryd.func73 #[.slice A0 l0.length c0, .int .i64 (wrap64 (Int.tdiv a1 32))] ?_; (with_reducible refine (pelorusref01_at.calls _ _ l0 (wrap64 (Int.tdiv a1 32)) t301 _ ?side1 ?side2 A3.out).mono ?_); (case side1 => exact kc_ HR0.out); (case side2 => exact HC0.out); rintro e w' ⟨rfl, ⟨nd, rfl⟩⟩; refine ⟨_, rfl, ?_⟩))
  go_ret
  exact ⟨by first | rfl | (simp; done) | (simp only [← hji4, ← hji6] <;> (first | rfl | simp)) | (simp [*]; done), by repeat (first | exact Drawn0.refl _ | apply Drawn0.step)⟩
 ·rw [if_neg c5] at H
  exact absurd H (by simp)

/-! ### pelorusref01_Cmp: function 91 -/
set_option maxHeartbeats 8000000 in
set_option maxRecDepth 100000 in
theorem pelorusref01_Cmp.calls (k : Nat) (A0 : Option Addr) (c0 : Nat) (l0 : List Int) (A1 : Option Addr) (c1 : Nat) (l1 : List Int) (r : Int) (w : World) (hr0 : Kd.C (Kd.int .u32) w A0 l0.length l0) (hc0 : l0.length ≤ c0) (hr1 : Kd.C (Kd.int .u32) w A1 l1.length l1) (hc1 : l1.length ≤ c1) (h : pelorusref01_Cmp.f k l0 l1 = some r) :
  Calls Tryd.prog 91 #[.slice A0 l0.length c0, .slice A1 l1.length c1] w fun e w' => e = .returned (.int .i64 r) ∧ Below w.heap.size w w' := by
 have HR0 := Aside0.mk hr0
 have HC0 := Aside0.mk hc0
 clear hr0 hc0
 have HR1 := Aside0.mk hr1
 have HC1 := Aside0.mk hc1
 clear hr1 hc1
 have HB := Aside0.mk (Below.refl w.heap.size w)
 have H : ((pelorusref01_Trim.f k l0).bind fun t302 => ((pelorusref01_Trim.f k l1).bind fun t305 => (if (t302.length : Int) = (t305.length : Int) then (pelorusref01_Cmp.l0 k t302 t305 (wrap64 ((t302.length : Int) - 1))) else (if (t302.length : Int) < (t305.length : Int) then (some (-1)) else (some 1))))) = some r := h
 clear h
 replace H := Option.bind_eq_some_iff.mp H
 obtain ⟨t302, A30, H⟩ := H
 (try dsimp only at H)
 have A3 := Aside0.mk A30
 clear A30
 replace H := Option.bind_eq_some_iff.mp H
 obtain ⟨t305, A40, H⟩ := H
 (try dsimp only at H)
 have A4 := Aside0.mk A40
 clear A40
 by_cases c5 : (t302.length : Int) = (t305.length : Int)
 ·rw [if_pos c5] at H
  have c5b0 : ((t302.length : Int) == (t305.length : Int)) = true := beq_iff_eq.mpr c5
  have c5b1 : ((t302.length : Int) != (t305.length : Int)) = false := bne_eq_false_iff_eq.mpr c5
  have c5b2 : (t302.length == t305.length) = true := by first | simpa using c5 | (simp at c5 ⊢; omega)
  clear c5
  have H' := Aside0.mk H
  clear H
  go_enter Tryd.func91, Tryd.ntmps91
  iterate 3 (try go_wp2_with (first | (go_at_call 70; (with_reducible refine (pelorusref01_Trim.calls k _ _ l0 t302 _ ?side1 ?side2 A3.out).mono ?_); (case side1 => exact kc_ HR0.out); (case side2 => exact HC0.out); rintro e w6 ⟨v303, rfl, ho0, hb⟩; have HO304 := Aside0.mk (Kd.R_lower ho0 (below_size (bw_ HB.out))); replace HB := bq_ HB hb; (try clear hb); (try clear hb2); (try clear hk); (try clear hi); (try clear ho0)) | (go_at_call 70; (with_reducible refine (pelorusref01_Trim.calls k _ _ l1 t305 _ ?side1 ?side2 A4.out).mono ?_); (case side1 => exact kc_ (Kd.C_below HR1.out HB.out)); (case side2 => exact HC1.out); rintro e w7 ⟨v306, rfl, ho0, hb⟩; have HO307 := Aside0.mk (Kd.R_lower (Kd.R_new' ho0 (Kd.R_lt (kr_ HO304.out))) (below_size (bw_ HB.out))); replace HO304 := Aside0.mk (Kd.R_elder' (kr_ HO304.out) (Kd.R_base ho0) hb); replace HB := bq_ HB hb; (try clear hb); (try clear hb2); (try clear hk); (try clear hi); (try clear ho0); obtain ⟨Ao8, co8, eo8⟩ := Kd.R_slice HO304.out; subst eo8; obtain ⟨Ao9, co9, eo9⟩ := Kd.R_slice HO307.out; subst eo9)); try (go_quiet (fail)))
  go_loopg [7] k (fun kq v7 w' => ∃ (x7_1 : Int), v7 = .int .i64 x7_1 ∧ Aside0 (pelorusref01_Cmp.l0 kq t302 t305 x7_1 = some r) ∧ Aside0 (kq ≤ k) ∧ Aside0 (Kd.R (Kd.int .u32) 53 w' w.heap.size (fun k_ => some k_ ≠ ((.slice Ao9 t305.length co9) : Value).ownBlock) (.slice Ao8 t302.length co8) t302) ∧ Aside0 (Kd.R (Kd.int .u32) 53 w' w.heap.size (fun k_ => some k_ ≠ ((.slice Ao8 t302.length co8) : Value).ownBlock) (.slice Ao9 t305.length co9) t305) ∧ Aside0 (Below w.heap.size w w'))
  case atStart => exact ⟨(wrap64 ((t302.length : Int) - 1)), (by first | rfl | (simp; done) | (simp [*]; done)), H', ⟨Nat.le_refl _⟩, ⟨by (with_reducible repeat (first | apply Kd.R_alloc | apply Kd.R_drewN | apply Kd.R_drew)); exact Kd.R_mono HO304.out (fun _ hk => hk.2)⟩, ⟨by (with_reducible repeat (first | apply Kd.R_alloc | apply Kd.R_drewN | apply Kd.R_drew)); exact Kd.R_mono HO307.out (fun _ hk => hk.2)⟩, ⟨bw_ HB.out⟩⟩
  case round =>
   clear H'
   try clear c1
   try clear p2
   try clear c5
   try clear c5b0
   try clear c5b1
   try clear c5b2
   try clear p6
   try clear c9
   obtain ⟨x7_1, rfl, HA, HK1, HO_5, HO_6, HB⟩ := hrel
   cases gk with
   | zero => exact absurd HA.out (by simp [pelorusref01_Cmp.l0])
   | succ k1 =>
    have H := HA.out
    clear HA
    simp only [pelorusref01_Cmp.l0] at H
    by_cases c10 : x7_1 ≥ 0
    ·rw [if_pos c10] at H
     have c10b0 : decide (0 ≤ x7_1) = true := decide_eq_true c10
     clear c10
     by_cases c11 : 0 ≤ x7_1
     ·rw [if_pos c11] at H
      have c11b0 : decide (0 ≤ x7_1) = true := decide_eq_true c11
      clear c11
      by_cases c12 : x7_1 < (t302.length : Int)
      ·rw [if_pos c12] at H
       have c12b0 : decide (x7_1 < (t302.length : Int)) = true := decide_eq_true c12
       clear c12
       by_cases c13 : x7_1 < (t305.length : Int)
       ·rw [if_pos c13] at H
        have c13b0 : decide (x7_1 < (t305.length : Int)) = true := decide_eq_true c13
        clear c13
        by_cases c14 : (rd t302 x7_1) < (rd t305 x7_1)
        ·rw [if_pos c14] at H
         have c14b0 : decide ((rd t302 x7_1) < (rd t305 x7_1)) = true := decide_eq_true c14
         clear c14
         obtain rfl := Option.some.inj H
         have p308 : 0 ≤ (x7_1 : Int) := of_decide_eq_true (by first | (with_reducible assumption) | assumption)
         have q308 : x7_1 < (t302.length : Int) := of_decide_eq_true (by first | (with_reducible assumption) | assumption)
         obtain ⟨ad308, e308, hx308_0⟩ := Kd.at_int (Kd.R_reads' HO_5.out).2.2 x7_1 p308 q308
         cases e308
         replace p308 := eq_true p308
         replace q308 := eq_true q308
         have p309 : 0 ≤ (x7_1 : Int) := of_decide_eq_true (by first | (with_reducible assumption) | assumption)
         have q309 : x7_1 < (t305.length : Int) := of_decide_eq_true (by first | (with_reducible assumption) | assumption)
         obtain ⟨ad309, e309, hx309_0⟩ := Kd.at_int (Kd.R_reads' HO_6.out).2.2 x7_1 p309 q309
         cases e309
         replace p309 := eq_true p309
         replace q309 := eq_true q309
         go_wp2
         repeat (go_quiet (fail); try go_wp2)
         go_ret
         exact ⟨rf_, bw_ HB.out⟩
        ·rw [if_neg c14] at H
         have c14b0 : decide ((rd t302 x7_1) < (rd t305 x7_1)) = false := decide_eq_false c14
         clear c14
         by_cases c15 : (rd t302 x7_1) > (rd t305 x7_1)
         ·rw [if_pos c15] at H
          have c15b0 : decide ((rd t305 x7_1) < (rd t302 x7_1)) = true := decide_eq_true c15
          clear c15
          obtain rfl := Option.some.inj H
          have p308 : 0 ≤ (x7_1 : Int) := of_decide_eq_true (by first | (with_reducible assumption) | assumption)
          have q308 : x7_1 < (t302.length : Int) := of_decide_eq_true (by first | (with_reducible assumption) | assumption)
          obtain ⟨ad308, e308, hx308_0⟩ := Kd.at_int (Kd.R_reads' HO_5.out).2.2 x7_1 p308 q308
          cases e308
          replace p308 := eq_true p308
          replace q308 := eq_true q308
          have p309 : 0 ≤ (x7_1 : Int) := of_decide_eq_true (by first | (with_reducible assumption) | assumption)
          have q309 : x7_1 < (t305.length : Int) := of_decide_eq_true (by first | (with_reducible assumption) | assumption)
          obtain ⟨ad309, e309, hx309_0⟩ := Kd.at_int (Kd.R_reads' HO_6.out).2.2 x7_1 p309 q309
          cases e309
          replace p309 := eq_true p309
          replace q309 := eq_true q309
          have p310 : 0 ≤ (x7_1 : Int) := of_decide_eq_true (by first | (with_reducible assumption) | assumption)
          have q310 : x7_1 < (t302.length : Int) := of_decide_eq_true (by first | (with_reducible assumption) | assumption)
          obtain ⟨ad310, e310, hx310_0⟩ := Kd.at_int (Kd.R_reads' HO_5.out).2.2 x7_1 p310 q310
          obtain rfl : ad308 = ad310 := (by injection e310)
          replace p310 := eq_true p310
          replace q310 := eq_true q310
          have p311 : 0 ≤ (x7_1 : Int) := of_decide_eq_true (by first | (with_reducible assumption) | assumption)
          have q311 : x7_1 < (t305.length : Int) := of_decide_eq_true (by first | (with_reducible assumption) | assumption)
          obtain ⟨ad311, e311, hx311_0⟩ := Kd.at_int (Kd.R_reads' HO_6.out).2.2 x7_1 p311 q311
          obtain rfl : ad309 = ad311 := (by injection e311)
          replace p311 := eq_true p311
          replace q311 := eq_true q311
          go_wp2
          repeat (go_quiet (fail); try go_wp2)
          go_ret
          exact ⟨rf_, bw_ HB.out⟩
         ·rw [if_neg c15] at H
          have c15b0 : decide ((rd t305 x7_1) < (rd t302 x7_1)) = false := decide_eq_false c15
          clear c15
          have H' := Aside0.mk H
          clear H
          have p308 : 0 ≤ (x7_1 : Int) := of_decide_eq_true (by first | (with_reducible assumption) | assumption)
          have q308 : x7_1 < (t302.length : Int) := of_decide_eq_true (by first | (with_reducible assumption) | assumption)
          obtain ⟨ad308, e308, hx308_0⟩ := Kd.at_int (Kd.R_reads' HO_5.out).2.2 x7_1 p308 q308
          cases e308
          replace p308 := eq_true p308
          replace q308 := eq_true q308
          have p309 : 0 ≤ (x7_1 : Int) := of_decide_eq_true (by first | (with_reducible assumption) | assumption)
          have q309 : x7_1 < (t305.length : Int) := of_decide_eq_true (by first | (with_reducible assumption) | assumption)
          obtain ⟨ad309, e309, hx309_0⟩ := Kd.at_int (Kd.R_reads' HO_6.out).2.2 x7_1 p309 q309
          cases e309
          replace p309 := eq_true p309
          replace q309 := eq_true q309
          have p310 : 0 ≤ (x7_1 : Int) := of_decide_eq_true (by first | (with_reducible assumption) | assumption)
          have q310 : x7_1 < (t302.length : Int) := of_decide_eq_true (by first | (with_reducible assumption) | assumption)
          obtain ⟨ad310, e310, hx310_0⟩ := Kd.at_int (Kd.R_reads' HO_5.out).2.2 x7_1 p310 q310
          obtain rfl : ad308 = ad310 := (by injection e310)
          replace p310 := eq_true p310
          replace q310 := eq_true q310
          have p311 : 0 ≤ (x7_1 : Int) := of_decide_eq_true (by first | (with_reducible assumption) | assumption)
          have q311 : x7_1 < (t305.length : Int) := of_decide_eq_true (by first | (with_reducible assumption) | assumption)
          obtain ⟨ad311, e311, hx311_0⟩ := Kd.at_int (Kd.R_reads' HO_6.out).2.2 x7_1 p311 q311
          obtain rfl : ad309 = ad311 := (by injection e311)
          replace p311 := eq_true p311
          replace q311 := eq_true q311
          go_wp2
          repeat (go_quiet (fail); try go_wp2)
          go_roundg k1
          case measure => have := HK1.out; omega
          case rel => exact ⟨(wrap64 (x7_1 - 1)), (by first | rfl | (simp; done) | (simp [*]; done)), H', ⟨by have := HK1.out; omega⟩, ⟨by (with_reducible repeat (first | apply Kd.R_alloc | apply Kd.R_drewN | apply Kd.R_drew)); exact HO_5.out⟩, ⟨by (with_reducible repeat (first | apply Kd.R_alloc | apply Kd.R_drewN | apply Kd.R_drew)); exact HO_6.out⟩, ⟨bw_ HB.out⟩⟩
       ·rw [if_neg c13] at H
        exact absurd H (by simp)
      ·rw [if_neg c12] at H
       exact absurd H (by simp)
     ·rw [if_neg c11] at H
      exact absurd H (by simp)
    ·rw [if_neg c10] at H
     have c10b0 : decide (0 ≤ x7_1) = false := decide_eq_false c10
     clear c10
     obtain rfl := Option.some.inj H
     go_wp2
     repeat (go_quiet (fail); try go_wp2)
     go_ret
     exact ⟨rf_, bw_ HB.out⟩
 ·rw [if_neg c5] at H
  have c5b0 : ((t302.length : Int) == (t305.length : Int)) = false := beq_eq_false_iff_ne.mpr c5
  have c5b1 : ((t302.length : Int) != (t305.length : Int)) = true := bne_iff_ne.mpr c5
  have c5b2 : (t302.length == t305.length) = false := by first | simpa using c5 | (simp at c5 ⊢; omega)
  by_cases c16 : (t302.length : Int) < (t305.length : Int)
  ·rw [if_pos c16] at H
   have c16b0 : decide ((t302.length : Int) < (t305.length : Int)) = true := decide_eq_true c16
   have c16b1 : decide (t302.length < t305.length) = true := decide_eq_true (Int.ofNat_lt.mp c16)
   clear c16
   obtain rfl := Option.some.inj H
   go_enter Tryd.func91, Tryd.ntmps91
   iterate 3 (try go_wp2_with (first | (go_at_call 70; (with_reducible refine (pelorusref01_Trim.calls k _ _ l0 t302 _ ?side1 ?side2 A3.out).mono ?_); (case side1 => exact kc_ HR0.out); (case side2 => exact HC0.out); rintro e w17 ⟨v303, rfl, ho0, hb⟩; have HO304 := Aside0.mk (Kd.R_lower ho0 (below_size (bw_ HB.out))); replace HB := bq_ HB hb; (try clear hb); (try clear hb2); (try clear hk); (try clear hi); (try clear ho0)) | (go_at_call 70; (with_reducible refine (pelorusref01_Trim.calls k _ _ l1 t305 _ ?side1 ?side2 A4.out).mono ?_); (case side1 => exact kc_ (Kd.C_below HR1.out HB.out)); (case side2 => exact HC1.out); rintro e w18 ⟨v306, rfl, ho0, hb⟩; have HO307 := Aside0.mk (Kd.R_lower (Kd.R_new' ho0 (Kd.R_lt (kr_ HO304.out))) (below_size (bw_ HB.out))); replace HO304 := Aside0.mk (Kd.R_elder' (kr_ HO304.out) (Kd.R_base ho0) hb); replace HB := bq_ HB hb; (try clear hb); (try clear hb2); (try clear hk); (try clear hi); (try clear ho0); obtain ⟨Ao19, co19, eo19⟩ := Kd.R_slice HO304.out; subst eo19; obtain ⟨Ao20, co20, eo20⟩ := Kd.R_slice HO307.out; subst eo20)); try (go_quiet (fail)))
   go_ret
   exact ⟨rf_, bw_ HB.out⟩
  ·rw [if_neg c16] at H
   have c16b0 : decide ((t302.length : Int) < (t305.length : Int)) = false := decide_eq_false c16
   have c16b1 : decide (t302.length < t305.length) = false := decide_eq_false (fun h => c16 (Int.ofNat_lt.mpr h))
   clear c16
   obtain rfl := Option.some.inj H
   go_enter Tryd.func91, Tryd.ntmps91
   iterate 3 (try go_wp2_with (first | (go_at_call 70; (with_reducible refine (pelorusref01_Trim.calls k _ _ l0 t302 _ ?side1 ?side2 A3.out).mono ?_); (case side1 => exact kc_ HR0.out); (case side2 => exact HC0.out); rintro e w21 ⟨v303, rfl, ho0, hb⟩; have HO304 := Aside0.mk (Kd.R_lower ho0 (below_size (bw_ HB.out))); replace HB := bq_ HB hb; (try clear hb); (try clear hb2); (try clear hk); (try clear hi); (try clear ho0)) | (go_at_call 70; (with_reducible refine (pelorusref01_Trim.calls k _ _ l1 t305 _ ?side1 ?side2 A4.out).mono ?_); (case side1 => exact kc_ (Kd.C_below HR1.out HB.out)); (case side2 => exact HC1.out); rintro e w22 ⟨v306, rfl, ho0, hb⟩; have HO307 := Aside0.mk (Kd.R_lower (Kd.R_new' ho0 (Kd.R_lt (kr_ HO304.out))) (below_size (bw_ HB.out))); replace HO304 := Aside0.mk (Kd.R_elder' (kr_ HO304.out) (Kd.R_base ho0) hb); replace HB := bq_ HB hb; (try clear hb); (try clear hb2); (try clear hk); (try clear hi); (try clear ho0); obtain ⟨Ao23, co23, eo23⟩ := Kd.R_slice HO304.out; subst eo23; obtain ⟨Ao24, co24, eo24⟩ := Kd.R_slice HO307.out; subst eo24)); try (go_quiet (fail)))
   go_ret
   exact ⟨rf_, bw_ HB.out⟩

/-! ### pelorusref01_Sub: function 84 -/
set_option maxHeartbeats 8000000 in
set_option maxRecDepth 100000 in
theorem pelorusref01_Sub.calls (k : Nat) (A0 : Option Addr) (c0 : Nat) (l0 : List Int) (A1 : Option Addr) (c1 : Nat) (l1 : List Int) (r1 : List Int) (r2 : Bool) (w : World) (hr0 : Kd.C (Kd.int .u32) w A0 l0.length l0) (hc0 : l0.length ≤ c0) (hr1 : Kd.C (Kd.int .u32) w A1 l1.length l1) (hc1 : l1.length ≤ c1) (h : pelorusref01_Sub.f k l0 l1 = some (r1, r2)) :
  Calls Tryd.prog 84 #[.slice A0 l0.length c0, .slice A1 l1.length c1] w fun e w' => ∃ v0_ : Value, e = .returned (.tuple #[v0_, .bool r2]) ∧ Kd.R (Kd.int .u32) 53 w' w.heap.size (fun _ => True) v0_ r1 ∧ Below w.heap.size w w' := by
 have HR0 := Aside0.mk hr0
 have HC0 := Aside0.mk hc0
 clear hr0 hc0
 have HR1 := Aside0.mk hr1
 have HC1 := Aside0.mk hc1
 clear hr1 hc1
 have HB := Aside0.mk (Below.refl w.heap.size w)
 have H : ((pelorusref01_Cmp.f k l0 l1).bind fun t312 => (if t312 < 0 then (some (([] : List Int), false)) else (pelorusref01_Sub.l0 k l0 l1 ([] : List Int) 0 0))) = some (r1, r2) := h
 clear h
 replace H := Option.bind_eq_some_iff.mp H
 obtain ⟨t312, A30, H⟩ := H
 (try dsimp only at H)
 have A3 := Aside0.mk A30
 clear A30
 by_cases c4 : t312 < 0
 ·rw [if_pos c4] at H
  have c4b0 : decide (t312 < 0) = true := decide_eq_true c4
  clear c4
  simp only [Option.some.injEq, Prod.mk.injEq] at H
  obtain ⟨rfl, rfl⟩ := H
  go_enter Tryd.func84, Tryd.ntmps84
  go_wp2_with (first | ((with_reducible refine gate_callee (f := 91) rfl ?_); refine gl_ (some 12) Tryd.func91 #[.slice A0 l0.length c0, .slice A1 l1.length c1] ?_; (with_reducible refine (pelorusref01_Cmp.calls k _ _ l0 _ _ l1 t312 _ ?side1 ?side2 ?side3 ?side4 A3.out).mono ?_); (case side1 => exact kc_ HR0.out); (case side2 => exact HC0.out); (case side3 => exact kc_ HR1.out); (case side4 => exact HC1.out); rintro e w5 ⟨rfl, hb⟩; refine ⟨_, rfl, ?_⟩; replace HB := bq_ HB hb; (try clear hb); (try clear hb2); (try clear hk); (try clear hi)))
  go_ret2
  exact ⟨_, rf_, by first | exact Kd.R_nil _ _ _ _ _ | exact Kd.N_nil _ _ _ _ _ | exact Kd.V_nil _ _ _ _ _ | exact Kd.Q_nil _ _ _ _ _ | exact Kd.S_nil _ _ _ _ _, bw_ HB.out⟩
 ·rw [if_neg c4] at H
  have c4b0 : decide (t312 < 0) = false := decide_eq_false c4
  clear c4
  have H' := Aside0.mk H
  clear H
  go_enter Tryd.func84, Tryd.ntmps84
  go_wp2_with (first | ((with_reducible refine gate_callee (f := 91) rfl ?_); refine gl_ (some 12) Tryd.func91 #[.slice A0 l0.length c0, .slice A1 l1.length c1] ?_; (with_reducible refine (pelorusref01_Cmp.calls k _ _ l0 _ _ l1 t312 _ ?side1 ?side2 ?side3 ?side4 A3.out).mono ?_); (case side1 => exact kc_ HR0.out); (case side2 => exact HC0.out); (case side3 => exact kc_ HR1.out); (case side4 => exact HC1.out); rintro e w6 ⟨rfl, hb⟩; refine ⟨_, rfl, ?_⟩; replace HB := bq_ HB hb; (try clear hb); (try clear hb2); (try clear hk); (try clear hi)))
  go_loopg [6, 7, 8] k (fun kq v6 v7 v8 w' => ∃ (x6_1 : List Int) (x7_1 : Int) (x8_1 : Int), v7 = .int .u64 x7_1 ∧ v8 = .int .i64 x8_1 ∧ Aside0 (pelorusref01_Sub.l0 kq l0 l1 x6_1 x7_1 x8_1 = some (r1, r2)) ∧ Aside0 (kq ≤ k) ∧ Aside0 (Kd.R (Kd.int .u32) 53 w' w.heap.size (fun _ => True) v6 x6_1) ∧ Aside0 (Below w.heap.size w w'))
  case atStart => exact ⟨(([] : List Int)), (0), (0), (by first | rfl | (simp; done) | (simp [*]; done)), (by first | rfl | (simp; done) | (simp [*]; done)), H', ⟨Nat.le_refl _⟩, ⟨by first | exact Kd.R_nil _ _ _ _ _ | exact Kd.N_nil _ _ _ _ _ | exact Kd.V_nil _ _ _ _ _ | exact Kd.Q_nil _ _ _ _ _ | exact Kd.S_nil _ _ _ _ _⟩, ⟨bw_ HB.out⟩⟩
  case round =>
   clear H'
   try clear c1
   try clear p2
   try clear c4
   try clear c4b0
   obtain ⟨x6_1, x7_1, x8_1, rfl, rfl, HA, HK1, HO_6, HB⟩ := hrel
   cases gk with
   | zero => exact absurd HA.out (by simp [pelorusref01_Sub.l0])
   | succ k1 =>
    have H := HA.out
    clear HA
    simp only [pelorusref01_Sub.l0] at H
    by_cases c7 : x8_1 < (l0.length : Int)
    ·rw [if_pos c7] at H
     have c7b0 : decide (x8_1 < (l0.length : Int)) = true := decide_eq_true c7
     clear c7
     replace H := Option.bind_eq_some_iff.mp H
     obtain ⟨t313, A80, H⟩ := H
     (try dsimp only at H)
     have A8 := Aside0.mk A80
     clear A80
     replace H := Option.bind_eq_some_iff.mp H
     obtain ⟨t314, A90, H⟩ := H
     (try dsimp only at H)
     have A9 := Aside0.mk A90
     clear A90
     by_cases c10 : x6_1.length < 35184372088832
     ·rw [if_pos c10] at H
      have LMc10 := Aside0.mk c10
      clear c10
      obtain ⟨y315, hy315⟩ : ∃ y_ : List Int, y_ = (x6_1 ++ [(Int.tmod (IntKind.u64.wrap ((IntKind.u64.wrap ((IntKind.u64.wrap (4294967296 + t313)) - t314)) - x7_1)) 4294967296) % 4294967296]) := ⟨_, rfl⟩
      replace H : (pelorusref01_Sub.l0 k1 l0 l1 y315 (IntKind.u64.wrap (1 - (IntKind.u64.wrap (Int.tdiv (IntKind.u64.wrap ((IntKind.u64.wrap ((IntKind.u64.wrap (4294967296 + t313)) - t314)) - x7_1)) 4294967296)))) (wrap64 (x8_1 + 1))) = some (r1, r2) := by first | (rw [hy315]; with_reducible exact H) | (have H2_ := (Option.bind_some _ _).symm.trans H; rw [hy315]; with_reducible exact H2_) | (have H2_ := (Option.bind_some _ _).symm.trans H; with_reducible exact H2_) | with_reducible exact H | (rw [hy315]; exact H) | exact H
      have Ny315 := Aside0.mk hy315
      clear hy315
      have H' := Aside0.mk H
      clear H
      go_wp2_with (first | ((with_reducible refine gate_callee (f := 73) rfl ?_); refine gl_ (some 22) Tryd.func73 #[.slice A0 l0.length c0, .int .i64 x8_1] ?_; (with_reducible refine (pelorusref01_at.calls _ _ l0 x8_1 t313 _ ?side1 ?side2 A8.out).mono ?_); (case side1 => exact kc_ (Kd.C_below HR0.out HB.out)); (case side2 => exact HC0.out); rintro e w' ⟨rfl, ⟨nd, rfl⟩⟩; refine ⟨_, rfl, ?_⟩) | ((with_reducible refine gate_callee (f := 73) rfl ?_); refine gl_ (some 26) Tryd.func73 #[.slice A1 l1.length c1, .int .i64 x8_1] ?_; (with_reducible refine (pelorusref01_at.calls _ _ l1 x8_1 t314 _ ?side1 ?side2 A9.out).mono ?_); (case side1 => exact kc_ (Kd.C_below HR1.out (bw_ HB.out))); (case side2 => exact HC1.out); rintro e w' ⟨rfl, ⟨nd, rfl⟩⟩; refine ⟨_, rfl, ?_⟩) | ((with_reducible refine gate_builtin (b := .append) (xs := #[.tmp 30, .tmp 34]) rfl ?_); at_builtin; refine Kd.R_append (Kd.int .u32) (w0 := w) w.heap.size rfl (.tmp 30) (.tmp 34) 22 53 (.int .u32 0) 4 rfl Tryd.underlying22 info53 rfl (by decide) (by omega) u6 x6_1 ((Int.tmod (IntKind.u64.wrap ((IntKind.u64.wrap ((IntKind.u64.wrap (4294967296 + t313)) - t314)) - x7_1)) 4294967296) % 4294967296) [.int .u32 ((Int.tmod (IntKind.u64.wrap ((IntKind.u64.wrap ((IntKind.u64.wrap (4294967296 + t313)) - t314)) - x7_1)) 4294967296) % 4294967296)] (fun _ => True) (fun _ => False) rfl rfl ?aP (fun _ hk => hk.elim) ?aF ?aO ?aB ?aS ?aL ?_; (case aP => exact rfl); (case aB => exact (bw_ HB.out)); (case aF => exact (fun _ _ => trivial)); (case aO => exact (kr_ HO_6.out)); (case aS => exact (below_size (bw_ HB.out))); (case aL => have := LMc10.out; omega); intro v316 w11 ho hb hg hat; rw [← Ny315.out] at ho; have HO317 := Aside0.mk (ho); replace HB := Aside0.mk (hb); clear HO_6; clear ho hb hg hat))
      go_roundg k1
      case measure => have := HK1.out; omega
      case rel => exact ⟨(y315), (IntKind.u64.wrap (1 - (IntKind.u64.wrap (Int.tdiv (IntKind.u64.wrap ((IntKind.u64.wrap ((IntKind.u64.wrap (4294967296 + t313)) - t314)) - x7_1)) 4294967296)))), (wrap64 (x8_1 + 1)), (by first | rfl | (simp; done) | (simp [*]; done)), (by first | rfl | (simp; done) | (simp [*]; done)), H', ⟨by have := HK1.out; omega⟩, ⟨by (with_reducible repeat (first | apply Kd.R_alloc | apply Kd.R_drewN | apply Kd.R_drew)); exact HO317.out⟩, ⟨bw_ HB.out⟩⟩
     ·rw [if_neg c10] at H
      exact absurd H (by simp)
    ·rw [if_neg c7] at H
     have c7b0 : decide (x8_1 < (l0.length : Int)) = false := decide_eq_false c7
     clear c7
     replace H := Option.bind_eq_some_iff.mp H
     obtain ⟨t318, A120, H⟩ := H
     (try dsimp only at H)
     have A12 := Aside0.mk A120
     clear A120
     simp only [Option.some.injEq, Prod.mk.injEq] at H
     obtain ⟨rfl, rfl⟩ := H
     obtain ⟨Ao13, co13, eo13⟩ := Kd.R_slice HO_6.out
     subst eo13
     go_wp2_with (first | ((with_reducible refine gate_callee (f := 70) rfl ?_); refine gl_ (some 40) Tryd.func70 #[.slice Ao13 x6_1.length co13] ?_; (with_reducible refine (pelorusref01_Trim.calls k1 _ _ x6_1 t318 _ ?side1 ?side2 A12.out).mono ?_); (case side1 => exact kc_ (Kd.R_reads' HO_6.out).2.2); (case side2 => exact (Kd.R_reads' HO_6.out).2.1); rintro e w14 ⟨v319, rfl, ho0, hb⟩; refine ⟨_, rfl, ?_⟩; have HO320 := Aside0.mk (Kd.R_lower (Kd.R_new' ho0 (Kd.R_lt (kr_ HO_6.out))) (below_size (bw_ HB.out))); replace HO_6 := Aside0.mk (Kd.R_elder' (kr_ HO_6.out) (Kd.R_base ho0) hb); replace HB := bq_ HB hb; (try clear hb); (try clear hb2); (try clear hk); (try clear hi); (try clear ho0)))
     go_ret2
     exact ⟨_, rf_, by (with_reducible repeat (first | apply Kd.R_alloc | apply Kd.R_drewN | apply Kd.R_drew)); exact Kd.R_mono HO320.out (fun _ hk => trivial), bw_ HB.out⟩

/-! ### pelorusref01_set: function 85 -/
set_option maxHeartbeats 8000000 in
set_option maxRecDepth 100000 in
theorem pelorusref01_set.calls (k : Nat) (A0 : Option Addr) (c0 : Nat) (l0 : List Int) (a1 : Int) (r : List Int) (w : World) (hr0 : Kd.C (Kd.int .u32) w A0 l0.length l0) (hc0 : l0.length ≤ c0) (h : pelorusref01_set.f k l0 a1 = some r) :
  Calls Tryd.prog 85 #[.slice A0 l0.length c0, .int .i64 a1] w fun e w' => ∃ v0_ : Value, e = .returned (v0_) ∧ Kd.R (Kd.int .u32) 53 w' w.heap.size (fun _ => True) v0_ r ∧ Below w.heap.size w w' := by
 have HR0 := Aside0.mk hr0
 have HC0 := Aside0.mk hc0
 clear hr0 hc0
 have HB := Aside0.mk (Below.refl w.heap.size w)
 have H : (if ([] : List Int).length + l0.length < 35184372088832 then (pelorusref01_set.l0 k a1 (([] : List Int) ++ l0)) else (none)) = some r := h
 clear h
 by_cases c3 : ([] : List Int).length + l0.length < 35184372088832
 ·rw [if_pos c3] at H
  have LMc3 := Aside0.mk c3
  clear c3
  obtain ⟨y321, hy321⟩ : ∃ y_ : List Int, y_ = (([] : List Int) ++ l0) := ⟨_, rfl⟩
  replace H : (pelorusref01_set.l0 k a1 y321) = some r := by first | (rw [hy321]; with_reducible exact H) | (have H2_ := (Option.bind_some _ _).symm.trans H; rw [hy321]; with_reducible exact H2_) | (have H2_ := (Option.bind_some _ _).symm.trans H; with_reducible exact H2_) | with_reducible exact H | (rw [hy321]; exact H) | exact H
  have Ny321 := Aside0.mk hy321
  clear hy321
  have H' := Aside0.mk H
  clear H
  go_enter Tryd.func85, Tryd.ntmps85
  go_wp2_with (first | ((with_reducible refine gate_builtin (b := .append) (xs := #[.const (.slice none 0 0), .tmp 6]) rfl ?_); at_builtin; refine Kd.R_append_rows (Kd.int .u32) (w0 := w) w.heap.size rfl (.const (.slice none 0 0)) (.tmp 6) 22 53 (.int .u32 0) 4 rfl Tryd.underlying22 info53 rfl (by decide) (by omega) (.slice none 0 0) ([] : List Int) l0 _ _ _ (fun _ => True) (fun _ => False) rfl rfl ?aO ?aR (fun _ _ h => h) (fun _ h => h.elim) ?aF ?aB ?aS ?aL ?_; (case aR => exact kc_ HR0.out); (case aB => exact (bw_ HB.out)); (case aF => exact (fun _ _ => trivial)); (case aO => exact ((Kd.R_nil _ _ _ _ (fun _ => True)))); (case aS => exact (below_size (bw_ HB.out))); (case aL => have := LMc3.out; omega); intro v322 w4 ho hb hg hat; rw [← Ny321.out] at ho; have HO323 := Aside0.mk (ho); replace HB := Aside0.mk (hb); clear ho hb hg hat))
  go_loopg [5] k (fun kq v5 w' => ∃ (x5_1 : List Int), Aside0 (pelorusref01_set.l0 kq a1 x5_1 = some r) ∧ Aside0 (kq ≤ k) ∧ Aside0 (Kd.R (Kd.int .u32) 53 w' w.heap.size (fun _ => True) v5 x5_1) ∧ Aside0 (Below w.heap.size w w'))
  case atStart => exact ⟨(y321), H', ⟨Nat.le_refl _⟩, ⟨by (with_reducible repeat (first | apply Kd.R_alloc | apply Kd.R_drewN | apply Kd.R_drew)); exact HO323.out⟩, ⟨bw_ HB.out⟩⟩
  case round =>
   clear H'
   try clear p2
   try clear c3
   obtain ⟨x5_1, HA, HK1, HO_5, HB⟩ := hrel
   cases gk with
   | zero => exact absurd HA.out (by simp [pelorusref01_set.l0])
   | succ k1 =>
    have H := HA.out
    clear HA
    simp only [pelorusref01_set.l0] at H
    by_cases c5 : (x5_1.length : Int) ≤ (wrap64 (Int.tdiv a1 32))
    ·rw [if_pos c5] at H
     have c5b0 : decide ((x5_1.length : Int) ≤ (wrap64 (Int.tdiv a1 32))) = true := decide_eq_true c5
     clear c5
     by_cases c6 : x5_1.length < 35184372088832
     ·rw [if_pos c6] at H
      have LMc6 := Aside0.mk c6
      clear c6
      obtain ⟨y324, hy324⟩ : ∃ y_ : List Int, y_ = (x5_1 ++ [0]) := ⟨_, rfl⟩
      replace H : (pelorusref01_set.l0 k1 a1 y324) = some r := by first | (rw [hy324]; with_reducible exact H) | (have H2_ := (Option.bind_some _ _).symm.trans H; rw [hy324]; with_reducible exact H2_) | (have H2_ := (Option.bind_some _ _).symm.trans H; with_reducible exact H2_) | with_reducible exact H | (rw [hy324]; exact H) | exact H
      have Ny324 := Aside0.mk hy324
      clear hy324
      have H' := Aside0.mk H
      clear H
      obtain ⟨Ao7, co7, eo7⟩ := Kd.R_slice HO_5.out
      subst eo7
      go_wp2_with (first | ((with_reducible refine gate_builtin (b := .append) (xs := #[.tmp 13, .tmp 14]) rfl ?_); at_builtin; refine Kd.R_append (Kd.int .u32) (w0 := w) w.heap.size rfl (.tmp 13) (.tmp 14) 22 53 (.int .u32 0) 4 rfl Tryd.underlying22 info53 rfl (by decide) (by omega) (.slice Ao7 x5_1.length co7) x5_1 0 [.int .u32 0] (fun _ => True) (fun _ => False) rfl rfl ?aP (fun _ hk => hk.elim) ?aF ?aO ?aB ?aS ?aL ?_; (case aP => exact rfl); (case aB => exact (bw_ HB.out)); (case aF => exact (fun _ _ => trivial)); (case aO => exact (kr_ HO_5.out)); (case aS => exact (below_size (bw_ HB.out))); (case aL => have := LMc6.out; omega); intro v325 w8 ho hb hg hat; rw [← Ny324.out] at ho; have HO326 := Aside0.mk (ho); replace HB := Aside0.mk (hb); clear HO_5; clear ho hb hg hat))
      go_roundg k1
      case measure => have := HK1.out; omega
      case rel => exact ⟨(y324), H', ⟨by have := HK1.out; omega⟩, ⟨by (with_reducible repeat (first | apply Kd.R_alloc | apply Kd.R_drewN | apply Kd.R_drew)); exact HO326.out⟩, ⟨bw_ HB.out⟩⟩
     ·rw [if_neg c6] at H
      exact absurd H (by simp)
    ·rw [if_neg c5] at H
     have c5b0 : decide ((x5_1.length : Int) ≤ (wrap64 (Int.tdiv a1 32))) = false := decide_eq_false c5
     clear c5
     obtain ⟨ji9, hji9⟩ : ∃ j_ : Int, (wrap64 (Int.tdiv a1 32)) = j_ := ⟨_, rfl⟩
     (first | rw [hji9] at H | simp only [hji9] at H)
     (try rw [hji9] at c5b0)
     have hji9w : (IntKind.i64.wrap (Int.tdiv a1 32)) = ji9 := (i64_w _).trans hji9
     by_cases c10 : 0 ≤ (ji9)
     ·rw [if_pos c10] at H
      have c10b0 : decide (0 ≤ (ji9)) = true := decide_eq_true c10
      clear c10
      by_cases c11 : (ji9) < (x5_1.length : Int)
      ·rw [if_pos c11] at H
       have c11b0 : decide ((ji9) < (x5_1.length : Int)) = true := decide_eq_true c11
       clear c11
       obtain ⟨ji12, hji12⟩ : ∃ j_ : Int, (IntKind.u64.wrap (Int.tmod a1 32)) = j_ := ⟨_, rfl⟩
       (first | rw [hji12] at H | simp only [hji12] at H)
       by_cases c13 : 0 ≤ (ji12)
       ·rw [if_pos c13] at H
        have c13b0 := eq_true c13
        have c13b1 : decide (0 ≤ (ji12)) = true := decide_eq_true c13
        clear c13
        obtain ⟨ji14, hji14⟩ : ∃ j_ : Int, (shl .u32 1 (ji12)) = j_ := ⟨_, rfl⟩
        (first | rw [hji14] at H | simp only [hji14] at H)
        have hji14_ : (IntKind.u32.wrap (1 * 2 ^ min (ji12).toNat 32)) = ji14 := hji14
        have hji14z : (ji12) ≤ 32 → (IntKind.u32.wrap (1 * 2 ^ (ji12).toNat)) = ji14 := shl_small hji14
        have hji14u : (IntKind.u32.wrap (2 ^ min (ji12).toNat 32)) = ji14 := by have h_ := hji14_; rw [Int.one_mul] at h_; exact h_
        have hji14v : (ji12) ≤ 32 → (IntKind.u32.wrap (2 ^ (ji12).toNat)) = ji14 := fun hle_ => by have h_ := hji14z hle_; rw [Int.one_mul] at h_; exact h_
        obtain ⟨y328, hy328⟩ : ∃ y_ : List Int, y_ = (x5_1.set ((ji9) : Int).toNat (((rd x5_1 (ji9)) + (ji14)) % 4294967296)) := ⟨_, rfl⟩
        replace H : (some y328) = some r := by first | (rw [hy328]; with_reducible exact H) | (have H2_ := (Option.bind_some _ _).symm.trans H; rw [hy328]; with_reducible exact H2_) | (have H2_ := (Option.bind_some _ _).symm.trans H; with_reducible exact H2_) | with_reducible exact H | (rw [hy328]; exact H) | exact H
        have Ny328 := Aside0.mk hy328
        clear hy328
        obtain rfl := Option.some.inj H
        obtain ⟨Ao16, co16, eo16⟩ := Kd.R_slice HO_5.out
        subst eo16
        have p327 : 0 ≤ ((ji9) : Int) := of_decide_eq_true (by first | (with_reducible assumption) | assumption)
        have q327 : (ji9) < (x5_1.length : Int) := of_decide_eq_true (by first | (with_reducible assumption) | assumption)
        obtain ⟨ad327, e327, hx327_0⟩ := Kd.at_int (Kd.R_reads' HO_5.out).2.2 (ji9) p327 q327
        cases e327
        replace p327 := eq_true p327
        replace q327 := eq_true q327
        have p15 : 0 ≤ ((ji9) : Int) := of_decide_eq_true (by first | (with_reducible assumption) | assumption)
        have q15 : ((ji9) : Int) < ((x5_1.length : Int) : Int) := of_decide_eq_true (by first | (with_reducible assumption) | assumption)
        obtain ⟨go15, co15, eo15, gb15, gl15, cl15, HG15⟩ := Kd.R_form HO_5.out (by omega)
        (first | cases eo15 | (injection eo15 with ea_ en_ ec_; (first | subst ea_ | (injection ea_ with ea_; subst ea_)); subst ec_; clear en_))
        have GB15 := Aside0.mk gb15
        have GG15 := Aside0.mk HG15
        clear gb15 gl15 HG15
        (first | simp only [add_plain] at hx327_0 | skip)
        obtain ⟨hx15_0, hf15_0⟩ := Kd.R_celln 0 HO_5.out ((ji9) : Int) p15 q15
        replace p15 := eq_true p15
        replace q15 := eq_true q15
        have HP17 := Kd.R_putg HO_5.out ((ji9) : Int) (((rd x5_1 (ji9)) + (ji14)) % 4294967296)
        go_wp2_with (first | ((with_reducible refine gate_store (t := 53) (p := 29) rfl ?_); refine store_event (t := 53) (p := 29) (v := ?vo_w18) (w1 := (wr.setCell ⟨go15, ((ji9) : Int).toNat, none⟩ (.int .u32 (((rd x5_1 (ji9)) + (ji14)) % 4294967296)))) ?hg ?ho ?hn ?hr ?_; (case ho => rfl); (case hg => rfl); (case hn => rfl); (case hr => first | (go_simp; done) | (go_simp; rfl)); intro w18 hw; have hg : wr.grownBy w18 (some go15) := (by rw [hw]; exact HP17.2); have hp_ : Kd.R (Kd.int .u32) 53 w18 w.heap.size (fun _ => True) (.slice (some ⟨go15, 0, none⟩) x5_1.length co16) y328 := (by rw [hw, Ny328.out]; exact HP17.1); clear HP17; have n0_ := Aside0.mk (hp_); have n1_ := Aside0.mk ((by rw [hw]; exact below_set (HB.out) GB15.out : Below w.heap.size w w18)); clear HO_5; clear HB; have HO_5 := n0_; have HB := n1_; clear n0_ n1_; clear hg hw hp_))
        go_ret
        exact ⟨_, by first | rfl | (simp [errW_none, errW_some] <;> rfl) | (simp only [← hji9, ← hji12, ← hji14]; first | rfl | (simp [errW_none, errW_some] <;> rfl)) | (simp [*, errW_none, errW_some] <;> rfl), by (with_reducible repeat (first | apply Kd.R_alloc | apply Kd.R_drewN | apply Kd.R_drew)); exact HO_5.out, bw_ HB.out⟩
       ·rw [if_neg c13] at H
        exact absurd H (by simp)
      ·rw [if_neg c11] at H
       exact absurd H (by simp)
     ·rw [if_neg c10] at H
      exact absurd H (by simp)
 ·rw [if_neg c3] at H
  exact absurd H (by simp)

end Go.Proofs.YtkemnoejpbknhaaDoor.PA
