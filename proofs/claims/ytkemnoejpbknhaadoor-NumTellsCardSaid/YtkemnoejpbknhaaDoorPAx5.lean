-- Laid by this work's own program; Lean checks it.
import Derived.Test.YtkemnoejpbknhaaDoorPAx0
import Derived.Test.YtkemnoejpbknhaaDoorPAx2
import Derived.Test.YtkemnoejpbknhaaDoorPAx3
import Derived.Test.YtkemnoejpbknhaaDoorPAx4
namespace Go.Proofs.YtkemnoejpbknhaaDoor.PA
open Go.RowKit Go.Proofs.YtkemnoejpbknhaaDoorW.PrintWords Go.Proofs.YtkemnoejpbknhaaDoorW.PrintLast Go.Proofs.YtkemnoejpbknhaaDoorW.PrintMore
attribute [local go_sem] max2_int min2_int max_two min_two max_three min_three max_four min_four   -- for this text's walks alone
set_option linter.unusedVariables false
set_option linter.unusedSimpArgs false

attribute [local go_sem ↓ high] isSome_set_
/-! ### num_word: function 40 -/
set_option maxHeartbeats 8000000 in
set_option maxRecDepth 100000 in
theorem num_word.calls (k : Nat) (A0 : Option Addr) (c0 : Nat) (l0 : List Int) (r : Int) (w : World) (hr0 : Kd.C (Kd.int .u32) w A0 l0.length l0) (hc0 : l0.length ≤ c0) (h : num_word.f k l0 = some r) :
  Calls Tryd.prog 40 #[.slice A0 l0.length c0] w fun e w' => e = .returned (.int .u64 r) ∧ Drawn0 w w' := by
 have HR0 := Aside0.mk hr0
 have HC0 := Aside0.mk hc0
 clear hr0 hc0
 have H : (num_word.l0 k 0 l0 (l0.length : Int) 0) = some r := h
 clear h
 have H' := Aside0.mk H
 clear H
 go_enter Tryd.func40, Tryd.ntmps40
 go_wp2
 go_loopg [3, 8] k (fun kq v3 v8 w' => ∃ (x3_1 : Int) (x8_1 : Int), v3 = .int .u64 x3_1 ∧ v8 = .int .i64 x8_1 ∧ Aside0 (num_word.l0 kq x3_1 l0 (l0.length : Int) x8_1 = some r) ∧ Aside0 (kq ≤ k) ∧ Drawn0 w w')
 case atStart => exact ⟨(0), (0), (by first | rfl | (simp; done) | (simp [*]; done)), (by first | rfl | (simp; done) | (simp [*]; done)), H', ⟨Nat.le_refl _⟩, by repeat (first | exact Drawn0.refl _ | apply Drawn0.step)⟩
 case round =>
  clear H'
  obtain ⟨x3_1, x8_1, rfl, rfl, HA, HK1, ⟨m1, rfl⟩⟩ := hrel
  cases gk with
  | zero => exact absurd HA.out (by simp [num_word.l0])
  | succ k1 =>
   have H := HA.out
   clear HA
   simp only [num_word.l0] at H
   by_cases c2 : x8_1 < (l0.length : Int)
   ·rw [if_pos c2] at H
    have c2b0 : decide (x8_1 < (l0.length : Int)) = true := decide_eq_true c2
    clear c2
    by_cases c3 : 0 ≤ x8_1
    ·rw [if_pos c3] at H
     have c3b0 : decide (0 ≤ x8_1) = true := decide_eq_true c3
     clear c3
     by_cases c4 : x8_1 < (l0.length : Int)
     ·rw [if_pos c4] at H
      have c4b0 : decide (x8_1 < (l0.length : Int)) = true := decide_eq_true c4
      clear c4
      obtain ⟨ji5, hji5⟩ : ∃ j_ : Int, (wrap64 (32 * x8_1)) = j_ := ⟨_, rfl⟩
      (first | rw [hji5] at H | simp only [hji5] at H)
      have hji5w : (IntKind.i64.wrap (32 * x8_1)) = ji5 := (i64_w _).trans hji5
      by_cases c6 : 0 ≤ (ji5)
      ·rw [if_pos c6] at H
       have c6b0 := eq_true c6
       have c6b1 : decide (0 ≤ (ji5)) = true := decide_eq_true c6
       clear c6
       obtain ⟨ji7, hji7⟩ : ∃ j_ : Int, (shl .u64 (IntKind.u64.wrap (rd l0 x8_1)) (ji5)) = j_ := ⟨_, rfl⟩
       (first | rw [hji7] at H | simp only [hji7] at H)
       have hji7_ : (IntKind.u64.wrap ((IntKind.u64.wrap (rd l0 x8_1)) * 2 ^ min (ji5).toNat 64)) = ji7 := hji7
       have hji7z : (ji5) ≤ 64 → (IntKind.u64.wrap ((IntKind.u64.wrap (rd l0 x8_1)) * 2 ^ (ji5).toNat)) = ji7 := shl_small hji7
       have H' := Aside0.mk H
       clear H
       have p201 : 0 ≤ (x8_1 : Int) := of_decide_eq_true (by first | (with_reducible assumption) | assumption)
       have q201 : x8_1 < (l0.length : Int) := of_decide_eq_true (by first | (with_reducible assumption) | assumption)
       obtain ⟨ad201, e201, hx201_0⟩ := Kd.at_int HR0.out x8_1 p201 q201
       cases e201
       replace p201 := eq_true p201
       replace q201 := eq_true q201
       go_wp2
       go_roundg k1
       case measure => have := HK1.out; omega
       case rel => exact ⟨(Go.bits .or .u64 x3_1 (ji7)), (wrap64 (x8_1 + 1)), (by first | rfl | (simp; done) | (simp only [← hji7] <;> (first | rfl | simp)) | (simp [*]; done)), (by first | rfl | (simp; done) | (simp [*]; done)), H', ⟨by have := HK1.out; omega⟩, by repeat (first | exact Drawn0.refl _ | apply Drawn0.step)⟩
      ·rw [if_neg c6] at H
       exact absurd H (by simp)
     ·rw [if_neg c4] at H
      exact absurd H (by simp)
    ·rw [if_neg c3] at H
     exact absurd H (by simp)
   ·rw [if_neg c2] at H
    have c2b0 : decide (x8_1 < (l0.length : Int)) = false := decide_eq_false c2
    clear c2
    obtain rfl := Option.some.inj H
    go_wp2
    go_ret
    exact ⟨by first | rfl | (simp; done) | (simp [*]; done), by repeat (first | exact Drawn0.refl _ | apply Drawn0.step)⟩

/-! ### nat_Shl: function 41 -/
set_option maxHeartbeats 8000000 in
set_option maxRecDepth 100000 in
theorem nat_Shl.calls (k : Nat) (A0 : Option Addr) (c0 : Nat) (l0 : List Int) (a1 : Int) (r : List Int) (w : World) (hr0 : Kd.C (Kd.int .u32) w A0 l0.length l0) (hc0 : l0.length ≤ c0) (h : nat_Shl.f k l0 a1 = some r) :
  Calls Tryd.prog 41 #[.slice A0 l0.length c0, .int .i64 a1] w fun e w' => ∃ v0_ : Value, e = .returned (v0_) ∧ Kd.R (Kd.int .u32) 53 w' w.heap.size (fun _ => True) v0_ r ∧ Below w.heap.size w w' := by
 have HR0 := Aside0.mk hr0
 have HC0 := Aside0.mk hc0
 clear hr0 hc0
 have HB := Aside0.mk (Below.refl w.heap.size w)
 have H : ((nat_cut.f k l0).bind fun t202 => (if a1 < 1 then ((slices_Clone_uint32_uint32.f t202).bind fun t205 => (some t205)) else (if a1 > 16777216 then (some ([] : List Int)) else (if (t202.length : Int) = 0 then (some ([] : List Int)) else (if 0 ≤ (wrap64 ((wrap64 ((t202.length : Int) + (wrap64 (Int.tdiv a1 32)))) + 1)) then (if (wrap64 ((wrap64 ((t202.length : Int) + (wrap64 (Int.tdiv a1 32)))) + 1) : Int).toNat ≤ 70368744177664 then (nat_Shl.l0 k (wrap64 (Int.tdiv a1 32)) (Int.tmod a1 32) (List.replicate (wrap64 ((wrap64 ((t202.length : Int) + (wrap64 (Int.tdiv a1 32)))) + 1) : Int).toNat 0) t202 (t202.length : Int) 0) else (none)) else (none)))))) = some r := h
 clear h
 replace H := Option.bind_eq_some_iff.mp H
 obtain ⟨t202, A30, H⟩ := H
 (try dsimp only at H)
 have A3 := Aside0.mk A30
 clear A30
 by_cases c4 : a1 < 1
 ·rw [if_pos c4] at H
  have c4b0 : decide (a1 < 1) = true := decide_eq_true c4
  clear c4
  replace H := Option.bind_eq_some_iff.mp H
  obtain ⟨t205, A50, H⟩ := H
  (try dsimp only at H)
  have A5 := Aside0.mk A50
  clear A50
  obtain rfl := Option.some.inj H
  go_enter Tryd.func41, Tryd.ntmps41
  go_wp2_with (first | ((with_reducible refine gate_callee (f := 66) rfl ?_); refine gl_ (some 12) Tryd.func66 #[.slice A0 l0.length c0] ?_; (with_reducible refine (nat_cut.calls k (fun k_ => k_ < w.heap.size) _ _ l0 t202 _ ?side1 A3.out).mono ?_); (case side1 => exact Kd.V_mk HC0.out (Kd.F_below (Kd.C_F (Kd.heap_int .u32) HR0.out) (bw_ HB.out))); rintro e w6 ⟨v203, rfl, ho0, hb⟩; refine ⟨_, rfl, ?_⟩; have HO204 := Aside0.mk (Kd.V_lower (Kd.V_mono (ok' := fun k_ => True) ho0 (fun k_ hk_ => trivial)) (below_size (bw_ HB.out))); replace HB := bq_ HB hb; (try clear hb); (try clear hb2); (try clear hk); (try clear hi); (try clear ho0); obtain ⟨Ao7, co7, eo7⟩ := Kd.V_slice HO204.out; subst eo7) | ((with_reducible refine gate_callee (f := 68) rfl ?_); refine gl_ (some 17) Tryd.func68 #[.slice Ao7 t202.length co7] ?_; (with_reducible refine (slices_Clone_uint32_uint32.calls _ _ t202 t205 _ ?side1 ?side2 A5.out).mono ?_); (case side1 => exact kc_ (Kd.V_reads' HO204.out).2.2); (case side2 => exact (Kd.V_reads' HO204.out).2.1); rintro e w8 ⟨v206, rfl, ho0, hb⟩; refine ⟨_, rfl, ?_⟩; have n0_ := Aside0.mk (Kd.V_elder' (by (with_reducible repeat (first | apply Kd.V_alloc | apply Kd.V_drewN | apply Kd.V_drew)); exact HO204.out) (Kd.R_base ho0) hb); have n1_ := Aside0.mk (Kd.R_lower ho0 (below_size (bw_ HB.out))); have n2_ := bq_ HB hb; clear HO204; clear HB; have HO204 := n0_; have HO207 := n1_; have HB := n2_; clear n0_ n1_ n2_; (try clear hb); (try clear hb2); (try clear hk); (try clear hi); (try clear ho0)))
  go_ret
  exact ⟨_, rf_, by (with_reducible repeat (first | apply Kd.R_alloc | apply Kd.R_drewN | apply Kd.R_drew)); exact HO207.out, bw_ HB.out⟩
 ·rw [if_neg c4] at H
  have c4b0 : decide (a1 < 1) = false := decide_eq_false c4
  clear c4
  by_cases c9 : a1 > 16777216
  ·rw [if_pos c9] at H
   have c9b0 : decide (16777216 < a1) = true := decide_eq_true c9
   clear c9
   obtain rfl := Option.some.inj H
   go_enter Tryd.func41, Tryd.ntmps41
   go_wp2_with (first | ((with_reducible refine gate_callee (f := 66) rfl ?_); refine gl_ (some 12) Tryd.func66 #[.slice A0 l0.length c0] ?_; (with_reducible refine (nat_cut.calls k (fun k_ => k_ < w.heap.size) _ _ l0 t202 _ ?side1 A3.out).mono ?_); (case side1 => exact Kd.V_mk HC0.out (Kd.F_below (Kd.C_F (Kd.heap_int .u32) HR0.out) (bw_ HB.out))); rintro e w10 ⟨v203, rfl, ho0, hb⟩; refine ⟨_, rfl, ?_⟩; have HO204 := Aside0.mk (Kd.V_lower (Kd.V_mono (ok' := fun k_ => True) ho0 (fun k_ hk_ => trivial)) (below_size (bw_ HB.out))); replace HB := bq_ HB hb; (try clear hb); (try clear hb2); (try clear hk); (try clear hi); (try clear ho0)))
   go_ret
   exact ⟨_, rf_, by first | exact Kd.R_nil _ _ _ _ _ | exact Kd.N_nil _ _ _ _ _ | exact Kd.V_nil _ _ _ _ _ | exact Kd.Q_nil _ _ _ _ _ | exact Kd.S_nil _ _ _ _ _, bw_ HB.out⟩
  ·rw [if_neg c9] at H
   have c9b0 : decide (16777216 < a1) = false := decide_eq_false c9
   clear c9
   by_cases c11 : (t202.length : Int) = 0
   ·rw [if_pos c11] at H
    have c11b0 : ((t202.length : Int) == 0) = true := beq_iff_eq.mpr c11
    have c11b1 : ((t202.length : Int) != 0) = false := bne_eq_false_iff_eq.mpr c11
    clear c11
    obtain rfl := Option.some.inj H
    go_enter Tryd.func41, Tryd.ntmps41
    go_wp2_with (first | ((with_reducible refine gate_callee (f := 66) rfl ?_); refine gl_ (some 12) Tryd.func66 #[.slice A0 l0.length c0] ?_; (with_reducible refine (nat_cut.calls k (fun k_ => k_ < w.heap.size) _ _ l0 t202 _ ?side1 A3.out).mono ?_); (case side1 => exact Kd.V_mk HC0.out (Kd.F_below (Kd.C_F (Kd.heap_int .u32) HR0.out) (bw_ HB.out))); rintro e w12 ⟨v203, rfl, ho0, hb⟩; refine ⟨_, rfl, ?_⟩; have HO204 := Aside0.mk (Kd.V_lower (Kd.V_mono (ok' := fun k_ => True) ho0 (fun k_ hk_ => trivial)) (below_size (bw_ HB.out))); replace HB := bq_ HB hb; (try clear hb); (try clear hb2); (try clear hk); (try clear hi); (try clear ho0); obtain ⟨Ao13, co13, eo13⟩ := Kd.V_slice HO204.out; subst eo13))
    go_ret
    exact ⟨_, rf_, by first | exact Kd.R_nil _ _ _ _ _ | exact Kd.N_nil _ _ _ _ _ | exact Kd.V_nil _ _ _ _ _ | exact Kd.Q_nil _ _ _ _ _ | exact Kd.S_nil _ _ _ _ _, bw_ HB.out⟩
   ·rw [if_neg c11] at H
    have c11b0 : ((t202.length : Int) == 0) = false := beq_eq_false_iff_ne.mpr c11
    have c11b1 : ((t202.length : Int) != 0) = true := bne_iff_ne.mpr c11
    have c11b2 : ¬ (t202 = []) := fun h_ => c11 (by rw [h_]; rfl)
    obtain ⟨ji14, hji14⟩ : ∃ j_ : Int, (wrap64 ((wrap64 ((t202.length : Int) + (wrap64 (Int.tdiv a1 32)))) + 1)) = j_ := ⟨_, rfl⟩
    (first | rw [hji14] at H | simp only [hji14] at H)
    (try rw [hji14] at A3)
    have hji14w : (IntKind.i64.wrap ((wrap64 ((t202.length : Int) + (wrap64 (Int.tdiv a1 32)))) + 1)) = ji14 := (i64_w _).trans hji14
    by_cases c15 : 0 ≤ (ji14)
    ·rw [if_pos c15] at H
     have c15b0 := eq_true c15
     have c15b1 : decide (0 ≤ (ji14)) = true := decide_eq_true c15
     clear c15
     by_cases c16 : (ji14 : Int).toNat ≤ 70368744177664
     ·rw [if_pos c16] at H
      have c16b0 := eq_true c16
      have c16b1 : decide ((ji14 : Int).toNat ≤ 70368744177664) = true := decide_eq_true c16
      clear c16
      obtain ⟨y208, hy208⟩ : ∃ y_ : List Int, y_ = (List.replicate (ji14 : Int).toNat 0) := ⟨_, rfl⟩
      replace H : (nat_Shl.l0 k (wrap64 (Int.tdiv a1 32)) (Int.tmod a1 32) y208 t202 (t202.length : Int) 0) = some r := by first | (rw [hy208]; with_reducible exact H) | (have H2_ := (Option.bind_some _ _).symm.trans H; rw [hy208]; with_reducible exact H2_) | (have H2_ := (Option.bind_some _ _).symm.trans H; with_reducible exact H2_) | with_reducible exact H | (rw [hy208]; exact H) | exact H
      have Ny208 := Aside0.mk hy208
      clear hy208
      have H' := Aside0.mk H
      clear H
      go_enter Tryd.func41, Tryd.ntmps41
      go_wp2_with (first | ((with_reducible refine gate_callee (f := 66) rfl ?_); refine gl_ (some 12) Tryd.func66 #[.slice A0 l0.length c0] ?_; (with_reducible refine (nat_cut.calls k (fun k_ => k_ < w.heap.size) _ _ l0 t202 _ ?side1 A3.out).mono ?_); (case side1 => exact Kd.V_mk HC0.out (Kd.F_below (Kd.C_F (Kd.heap_int .u32) HR0.out) (bw_ HB.out))); rintro e w17 ⟨v203, rfl, ho0, hb⟩; refine ⟨_, rfl, ?_⟩; have HO204 := Aside0.mk (Kd.V_lower (Kd.V_mono (ok' := fun k_ => True) ho0 (fun k_ hk_ => trivial)) (below_size (bw_ HB.out))); replace HB := bq_ HB hb; (try clear hb); (try clear hb2); (try clear hk); (try clear hi); (try clear ho0); obtain ⟨Ao18, co18, eo18⟩ := Kd.V_slice HO204.out; subst eo18) | ((with_reducible refine gate_dst (N := 35) rfl ?_); (try (refine gate_guard (by rfl) ?_; dsimp only)); refine Kd.R_make (Kd.int .u32) _ 53 rfl (N := 35) rfl 22 _ _ rfl ji14 rfl rfl Tryd.underlying22 (.int .u32 0) 4 info53 rfl (by decide) (by omega) 0 (ok := fun _ => True) (okp := fun _ => True) rfl (fun _ hk => hk) trivial (of_decide_eq_true (by first | (with_reducible assumption) | assumption)) (Nat.le_trans (Nat.mul_le_mul_right _ (of_decide_eq_true (by first | (with_reducible assumption) | assumption) : ji14.toNat ≤ 70368744177664)) (by omega)) (Below.refl _ _) (Nat.le_refl _) ?_; intro v209 w19 ho20 hb hg_ hnew_; clear hg_ hnew_; (first | rw [← Ny208.out] at ho20 | (simp only [Int.reduceToNat] at ho20; rw [← Ny208.out] at ho20)); have n0_ := Aside0.mk (Kd.V_elder' (by (with_reducible repeat (first | apply Kd.V_alloc | apply Kd.V_drewN | apply Kd.V_drew)); exact HO204.out) (Kd.R_base ho20) hb); have n1_ := Aside0.mk (Kd.R_lower ho20 (below_size (bw_ HB.out))); have n2_ := bq_ HB hb; clear HO204; clear HB; have HO204 := n0_; have HO210 := n1_; have HB := n2_; clear n0_ n1_ n2_; clear hb ho20))
      go_loopg [38] k (fun kq v38 w' => ∃ (x7_1 : List Int) (x38_1 : Int), v38 = .int .i64 x38_1 ∧ Aside0 (nat_Shl.l0 kq (wrap64 (Int.tdiv a1 32)) (Int.tmod a1 32) x7_1 t202 (t202.length : Int) x38_1 = some r) ∧ Aside0 (kq ≤ k) ∧ Aside0 (Kd.R (Kd.int .u32) 53 w' w.heap.size (fun _ => True) v209 x7_1) ∧ Aside0 (Kd.V (Kd.int .u32) 53 w' w.heap.size (fun k_ => some k_ ≠ (v209 : Value).ownBlock) (.slice Ao18 t202.length co18) t202) ∧ Aside0 (Below w.heap.size w w'))
      case atStart => exact ⟨(y208), (0), (by first | rfl | (simp; done) | (simp [*]; done)), H', ⟨Nat.le_refl _⟩, ⟨by (with_reducible repeat (first | apply Kd.R_alloc | apply Kd.R_drewN | apply Kd.R_drew)); exact HO210.out⟩, ⟨by (with_reducible repeat (first | apply Kd.V_alloc | apply Kd.V_drewN | apply Kd.V_drew)); exact Kd.V_mono HO204.out (fun _ hk => hk.2)⟩, ⟨bw_ HB.out⟩⟩
      case round =>
       clear H'
       try clear c1
       try clear p2
       try clear c4
       try clear c4b0
       try clear c6
       try clear p6
       try clear c9
       try clear c9b0
       try clear c11
       try clear c11b0
       try clear c11b1
       try clear c11b2
       try clear c15
       try clear c15b0
       try clear c15b1
       try clear c16
       try clear c16b0
       try clear c16b1
       obtain ⟨x7_1, x38_1, rfl, HA, HK1, HO_7, HO_36, HB⟩ := hrel
       cases gk with
       | zero => exact absurd HA.out (by simp [nat_Shl.l0])
       | succ k1 =>
        have H := HA.out
        clear HA
        simp only [nat_Shl.l0] at H
        by_cases c21 : x38_1 < (t202.length : Int)
        ·rw [if_pos c21] at H
         have c21b0 : decide (x38_1 < (t202.length : Int)) = true := decide_eq_true c21
         clear c21
         by_cases c22 : 0 ≤ x38_1
         ·rw [if_pos c22] at H
          have c22b0 : decide (0 ≤ x38_1) = true := decide_eq_true c22
          clear c22
          by_cases c23 : x38_1 < (t202.length : Int)
          ·rw [if_pos c23] at H
           have c23b0 : decide (x38_1 < (t202.length : Int)) = true := decide_eq_true c23
           clear c23
           obtain ⟨ji24, hji24⟩ : ∃ j_ : Int, (Int.tmod a1 32) = j_ := ⟨_, rfl⟩
           (first | rw [hji24] at H | simp only [hji24] at H)
           by_cases c25 : 0 ≤ (ji24)
           ·rw [if_pos c25] at H
            have c25b0 := eq_true c25
            have c25b1 : decide (0 ≤ (ji24)) = true := decide_eq_true c25
            clear c25
            obtain ⟨ji26, hji26⟩ : ∃ j_ : Int, (shl .u64 (IntKind.u64.wrap (rd t202 x38_1)) (ji24)) = j_ := ⟨_, rfl⟩
            (first | rw [hji26] at H | simp only [hji26] at H)
            have hji26_ : (IntKind.u64.wrap ((IntKind.u64.wrap (rd t202 x38_1)) * 2 ^ min (ji24).toNat 64)) = ji26 := hji26
            have hji26z : (ji24) ≤ 64 → (IntKind.u64.wrap ((IntKind.u64.wrap (rd t202 x38_1)) * 2 ^ (ji24).toNat)) = ji26 := shl_small hji26
            obtain ⟨ji27, hji27⟩ : ∃ j_ : Int, (wrap64 (x38_1 + (wrap64 (Int.tdiv a1 32)))) = j_ := ⟨_, rfl⟩
            (first | rw [hji27] at H | simp only [hji27] at H)
            have hji27w : (IntKind.i64.wrap (x38_1 + (wrap64 (Int.tdiv a1 32)))) = ji27 := (i64_w _).trans hji27
            by_cases c28 : 0 ≤ (ji27)
            ·rw [if_pos c28] at H
             have c28b0 : decide (0 ≤ (ji27)) = true := decide_eq_true c28
             clear c28
             by_cases c29 : (ji27) < (x7_1.length : Int)
             ·rw [if_pos c29] at H
              have c29b0 : decide ((ji27) < (x7_1.length : Int)) = true := decide_eq_true c29
              clear c29
              obtain ⟨y213, hy213⟩ : ∃ y_ : List Int, y_ = (x7_1.set ((ji27) : Int).toNat (Go.bits .or .u32 (rd x7_1 (ji27)) ((ji26) % 4294967296))) := ⟨_, rfl⟩
              replace H : (if 0 ≤ (wrap64 ((ji27) + 1)) then (if (wrap64 ((ji27) + 1)) < (x7_1.length : Int) then (nat_Shl.l0 k1 (wrap64 (Int.tdiv a1 32)) (ji24) (y213.set ((wrap64 ((ji27) + 1)) : Int).toNat (Go.bits .or .u32 (rd y213 (wrap64 ((ji27) + 1))) (((ji26) / 4294967296) % 4294967296))) t202 (t202.length : Int) (wrap64 (x38_1 + 1))) else (none)) else (none)) = some r := by first | (rw [hy213]; with_reducible exact H) | (have H2_ := (Option.bind_some _ _).symm.trans H; rw [hy213]; with_reducible exact H2_) | (have H2_ := (Option.bind_some _ _).symm.trans H; with_reducible exact H2_) | with_reducible exact H | (rw [hy213]; exact H) | exact H
              have Ny213 := Aside0.mk hy213
              clear hy213
              obtain ⟨ji31, hji31⟩ : ∃ j_ : Int, (wrap64 ((ji27) + 1)) = j_ := ⟨_, rfl⟩
              (first | rw [hji31] at H | simp only [hji31] at H)
              have hji31w : (IntKind.i64.wrap ((ji27) + 1)) = ji31 := (i64_w _).trans hji31
              by_cases c32 : 0 ≤ (ji31)
              ·rw [if_pos c32] at H
               have c32b0 : decide (0 ≤ (ji31)) = true := decide_eq_true c32
               clear c32
               by_cases c33 : (ji31) < (x7_1.length : Int)
               ·rw [if_pos c33] at H
                have c33b0 : decide ((ji31) < (x7_1.length : Int)) = true := decide_eq_true c33
                clear c33
                obtain ⟨y215, hy215⟩ : ∃ y_ : List Int, y_ = (y213.set ((ji31) : Int).toNat (Go.bits .or .u32 (rd y213 (ji31)) (((ji26) / 4294967296) % 4294967296))) := ⟨_, rfl⟩
                replace H : (nat_Shl.l0 k1 (wrap64 (Int.tdiv a1 32)) (ji24) y215 t202 (t202.length : Int) (wrap64 (x38_1 + 1))) = some r := by first | (rw [hy215]; with_reducible exact H) | (have H2_ := (Option.bind_some _ _).symm.trans H; rw [hy215]; with_reducible exact H2_) | (have H2_ := (Option.bind_some _ _).symm.trans H; with_reducible exact H2_) | with_reducible exact H | (rw [hy215]; exact H) | exact H
                have Ny215 := Aside0.mk hy215
                clear hy215
                have H' := Aside0.mk H
                clear H
                have p211 : 0 ≤ (x38_1 : Int) := of_decide_eq_true (by first | (with_reducible assumption) | assumption)
                have q211 : x38_1 < (t202.length : Int) := of_decide_eq_true (by first | (with_reducible assumption) | assumption)
                obtain ⟨ad211, e211, hx211_0⟩ := Kd.at_int (Kd.V_reads' HO_36.out).2.2 x38_1 p211 q211
                cases e211
                replace p211 := eq_true p211
                replace q211 := eq_true q211
                obtain ⟨Ao35, co35, eo35⟩ := Kd.R_slice HO_7.out
                subst eo35
                have p212 : 0 ≤ ((ji27) : Int) := of_decide_eq_true (by first | (with_reducible assumption) | assumption)
                have q212 : (ji27) < (x7_1.length : Int) := of_decide_eq_true (by first | (with_reducible assumption) | assumption)
                obtain ⟨ad212, e212, hx212_0⟩ := Kd.at_int (Kd.R_reads' HO_7.out).2.2 (ji27) p212 q212
                cases e212
                replace p212 := eq_true p212
                replace q212 := eq_true q212
                have p30 : 0 ≤ ((ji27) : Int) := of_decide_eq_true (by first | (with_reducible assumption) | assumption)
                have q30 : ((ji27) : Int) < ((x7_1.length : Int) : Int) := of_decide_eq_true (by first | (with_reducible assumption) | assumption)
                obtain ⟨go30, co30, eo30, gb30, gl30, cl30, HG30⟩ := Kd.R_form HO_7.out (by omega)
                (first | cases eo30 | (injection eo30 with ea_ en_ ec_; (first | subst ea_ | (injection ea_ with ea_; subst ea_)); subst ec_; clear en_))
                have GB30 := Aside0.mk gb30
                have GG30 := Aside0.mk HG30
                clear gb30 gl30 HG30
                (first | simp only [add_plain] at hx212_0 | skip)
                obtain ⟨hx30_0, hf30_0⟩ := Kd.R_celln 0 HO_7.out ((ji27) : Int) p30 q30
                replace p30 := eq_true p30
                replace q30 := eq_true q30
                have HP36 := Kd.R_putg HO_7.out ((ji27) : Int) (Go.bits .or .u32 (rd x7_1 (ji27)) ((ji26) % 4294967296))
                go_wp2_with (first | ((with_reducible refine gate_store (t := 53) (p := 56) rfl ?_); refine store_event (t := 53) (p := 56) (v := ?vo_w37) (w1 := (wr.setCell ⟨go30, ((ji27) : Int).toNat, none⟩ (.int .u32 (Go.bits .or .u32 (rd x7_1 (ji27)) ((ji26) % 4294967296))))) ?hg ?ho ?hn ?hr ?_; (case ho => rfl); (case hg => rfl); (case hn => rfl); (case hr => first | (go_simp; done) | (go_simp; rfl)); intro w37 hw; have hg : wr.grownBy w37 (some go30) := (by rw [hw]; exact HP36.2); have hp_ : Kd.R (Kd.int .u32) 53 w37 w.heap.size (fun _ => True) (.slice (some ⟨go30, 0, none⟩) x7_1.length co35) y213 := (by rw [hw, Ny213.out]; exact HP36.1); clear HP36; have n0_ := Aside0.mk (hp_); have n1_ := Aside0.mk (Kd.V_afterv (v := (.slice (some ⟨go30, 0, none⟩) x7_1.length co35)) (v1 := (.slice (some ⟨go30, 0, none⟩) x7_1.length co35)) (ok := (fun _ => True)) (by (with_reducible repeat (first | apply Kd.V_alloc | apply Kd.V_drewN | apply Kd.V_drew)); exact Kd.V_mono HO_36.out (fun _ hk => by first | exact ⟨trivial, hk⟩ | (simp only [ob_map] at hk ⊢; exact ⟨trivial, hk⟩))) hg (.inl rfl)); have n2_ := Aside0.mk ((by rw [hw]; exact below_set (HB.out) GB30.out : Below w.heap.size w w37)); clear HO_7; clear HO_36; clear HB; have HO_7 := n0_; have HO_36 := n1_; have HB := n2_; clear n0_ n1_ n2_; clear hg hw hp_; have p214 : 0 ≤ ((ji31) : Int) := of_decide_eq_true (by first | (with_reducible assumption) | assumption); have q214 : (ji31) < (y213.length : Int) := (by have h_ : ((ji31) : Int) < ((x7_1.length : Int) : Int) := of_decide_eq_true (by first | (with_reducible assumption) | assumption); first | (have e_ := (Kd.R_reads' HO_7.out).1; omega) | simpa only [Ny213.out, List.length_set] using h_); have ql214 : (((ji31) : Int) < ((x7_1.length : Int) : Int)) = True := eq_true (of_decide_eq_true (by first | (with_reducible assumption) | assumption)); obtain ⟨ad214, e214, hx214_0⟩ := Kd.at_int (Kd.R_reads' HO_7.out).2.2 (ji31) p214 q214; obtain rfl : (⟨go30, 0, none⟩ : Addr) = ad214 := (by injection e214); (first | simp only [add_plain] at hx214_0 | simp only [add_at] at hx214_0 | simp only [Addr.add, Nat.zero_add] at hx214_0 | skip); replace p214 := eq_true p214; replace q214 := eq_true q214; have p34 : 0 ≤ ((ji31) : Int) := of_decide_eq_true (by first | (with_reducible assumption) | assumption); have q34 : ((ji31) : Int) < ((x7_1.length : Int) : Int) := of_decide_eq_true (by first | (with_reducible assumption) | assumption); obtain ⟨hx34_0, hf34_0⟩ := Kd.R_celln 0 HO_7.out ((ji31) : Int) p34 q34; replace p34 := eq_true p34; replace q34 := eq_true q34; obtain ⟨hy38_, hz38_⟩ := Kd.R_celln 0 HO_7.out ((ji31) : Int) (of_decide_eq_true (by first | (with_reducible assumption) | assumption)) (of_decide_eq_true (by first | (with_reducible assumption) | assumption)); have HP38 := Kd.R_putg HO_7.out ((ji31) : Int) (Go.bits .or .u32 (rd y213 (ji31)) (((ji26) / 4294967296) % 4294967296))) | ((with_reducible refine gate_store (t := 53) (p := 68) rfl ?_); refine store_event (t := 53) (p := 68) (v := ?vo_w39) (w1 := (w37.setCell ⟨go30, ((ji31) : Int).toNat, none⟩ (.int .u32 (Go.bits .or .u32 (rd y213 (ji31)) (((ji26) / 4294967296) % 4294967296))))) ?hg ?ho ?hn ?hr ?_; (case ho => rfl); (case hg => rfl); (case hn => rfl); (case hr => first | (go_simp; done) | (go_simp; rfl)); intro w39 hw; have hg : w37.grownBy w39 (some go30) := (by rw [hw]; exact HP38.2); have hp_ : Kd.R (Kd.int .u32) 53 w39 w.heap.size (fun _ => True) (.slice (some ⟨go30, 0, none⟩) x7_1.length co35) y215 := (by rw [hw, Ny215.out]; exact HP38.1); clear HP38; have n0_ := Aside0.mk (hp_); have n1_ := Aside0.mk (Kd.V_afterv (v := (.slice (some ⟨go30, 0, none⟩) x7_1.length co35)) (v1 := (.slice (some ⟨go30, 0, none⟩) x7_1.length co35)) (ok := (fun _ => True)) (by (with_reducible repeat (first | apply Kd.V_alloc | apply Kd.V_drewN | apply Kd.V_drew)); exact HO_36.out) hg (.inl rfl)); have n2_ := Aside0.mk ((by rw [hw]; exact below_set (HB.out) GB30.out : Below w.heap.size w w39)); clear HO_7; clear HO_36; clear HB; have HO_7 := n0_; have HO_36 := n1_; have HB := n2_; clear n0_ n1_ n2_; clear hg hw hp_))
                (try subst hji24)
                go_roundg k1
                case measure => have := HK1.out; omega
                case rel => exact ⟨(y215), (wrap64 (x38_1 + 1)), (by first | rfl | (simp; done) | (simp [*]; done)), H', ⟨by have := HK1.out; omega⟩, ⟨by (with_reducible repeat (first | apply Kd.R_alloc | apply Kd.R_drewN | apply Kd.R_drew)); exact HO_7.out⟩, ⟨by (with_reducible repeat (first | apply Kd.V_alloc | apply Kd.V_drewN | apply Kd.V_drew)); exact Kd.V_mono HO_36.out (fun _ hk => hk.2)⟩, ⟨bw_ HB.out⟩⟩
               ·rw [if_neg c33] at H
                exact absurd H (by simp)
              ·rw [if_neg c32] at H
               exact absurd H (by simp)
             ·rw [if_neg c29] at H
              exact absurd H (by simp)
            ·rw [if_neg c28] at H
             exact absurd H (by simp)
           ·rw [if_neg c25] at H
            exact absurd H (by simp)
          ·rw [if_neg c23] at H
           exact absurd H (by simp)
         ·rw [if_neg c22] at H
          exact absurd H (by simp)
        ·rw [if_neg c21] at H
         have c21b0 : decide (x38_1 < (t202.length : Int)) = false := decide_eq_false c21
         clear c21
         replace H := Option.bind_eq_some_iff.mp H
         obtain ⟨t216, A400, H⟩ := H
         (try dsimp only at H)
         have A40 := Aside0.mk A400
         clear A400
         obtain rfl := Option.some.inj H
         obtain ⟨Ao41, co41, eo41⟩ := Kd.R_slice HO_7.out
         subst eo41
         go_wp2_with (first | ((with_reducible refine gate_callee (f := 66) rfl ?_); refine gl_ (some 71) Tryd.func66 #[.slice Ao41 x7_1.length co41] ?_; (with_reducible refine (nat_cut_own.calls k1 (fun k_ => some k_ = (.slice Ao41 x7_1.length co41 : Value).ownBlock) (.slice Ao41 x7_1.length co41) x7_1 t216 w _ ?side1 ?side2 A40.out).mono ?_); (case side1 => repeat (first | (with_reducible first | exact HB.out | apply below_alloc | apply pw_below_drewN | apply below_drew1) | exact HB.out)); (case side2 => exact Kd.R_tight rfl HO_7.out); rintro e w42 ⟨v217, rfl, ho0, hb, hkp⟩; refine ⟨_, rfl, ?_⟩; have HO218 := Aside0.mk (Kd.R_mono (ok' := fun k_ => True) ho0 (fun k_ hk_ => trivial)); replace HO_36 := Aside0.mk (Kd.V_mono (ok' := fun k_ => some k_ ≠ (v217 : Value).ownBlock) (Kd.V_keptB (HO_36.out) hkp (fun k_ hk_ hs_ => (hk_) hs_)) (fun k_ hk_ => fun e_ => Or.elim (ho0.1 k_ e_.symm) (fun hs_ => hk_.2.1 hs_) (fun hn_ => Nat.not_le.2 hk_.2.2 hn_))); replace HB := Aside0.mk (hb); clear HO_7; (try clear hb); (try clear hkp); (try clear ho0)))
         go_ret
         exact ⟨_, by first | rfl | (simp [errW_none, errW_some] <;> rfl) | (simp only [← hji14]; first | rfl | (simp [errW_none, errW_some] <;> rfl)) | (simp [*, errW_none, errW_some] <;> rfl), by (with_reducible repeat (first | apply Kd.R_alloc | apply Kd.R_drewN | apply Kd.R_drew)); exact HO218.out, bw_ HB.out⟩
     ·rw [if_neg c16] at H
      exact absurd H (by simp)
    ·rw [if_neg c15] at H
     exact absurd H (by simp)

/-! ### num_Grow: function 42 -/
set_option maxHeartbeats 8000000 in
set_option maxRecDepth 100000 in
theorem num_Grow.calls (k : Nat) (a0 : Bool) (a1 : Int) (a2 : Int) (a3 : Bool) (a4 : Bool) (r1 : Int) (r2 : Bool) (r3 : Int) (r4 : Int) (w : World) (h : num_Grow.f k a0 a1 a2 a3 a4 = some (r1, r2, r3, r4)) :
  Calls Tryd.prog 42 #[.bool a0, .int .u64 a1, .int .i64 a2, .bool a3, .bool a4] w fun e w' => e = .returned (.agg #[.int .i64 r1, .bool r2, .int .u64 r3, .int .i64 r4]) ∧ Below w.heap.size w w' := by
 have hu30 := Tryd.underlying30
 have HB := Aside0.mk (Below.refl w.heap.size w)
 have H : (if a3 = true then (num_Grow.j0 k a0 a1 a2 a4 a4) else (num_Grow.j0 k a0 a1 a2 a4 false)) = some (r1, r2, r3, r4) := h
 clear h
 have HC6 := Aside0.mk H
 clear H
 go_enter Tryd.func42, Tryd.ntmps42
 go_upto_region 1 with (first | ((with_reducible refine gate_dst (N := 10) rfl ?_); refine bx_ 10 #[.int .i64 0, .bool false, .int .u64 0, .int .i64 0] 30 ?_; intro gb219 hg w7 hbox hb; have BK219 := Aside0.mk (hbox); have GW219 := ge_ hg HB; have GE219 := ge_ hg HB; replace HB := bq_ HB hb; clear hb hbox hg))
 (try simp only [Act.put, List.setIfInBounds_toArray, List.set_cons_zero, List.set_cons_succ])
 go_cut [14] (fun v14 wc => ∃ (kq : Nat) (x14_5 : Bool), v14 = .bool x14_5 ∧ Aside0 (num_Grow.j0 kq a0 a1 a2 a4 x14_5 = some (r1, r2, r3, r4)) ∧ Aside0 (kq ≤ k) ∧ Aside0 (wc.heap[gb219]? = some (.cells #[.int .i64 0, .bool false, .int .u64 0, .int .i64 0] 30 (0, 0))) ∧ Aside0 (Below w.heap.size w wc))
 case first =>
  have H := HC6.out
  clear HC6
  by_cases c8 : a3 = true
  ·subst c8
   have H1 : (num_Grow.j0 k a0 a1 a2 a4 a4) = some (r1, r2, r3, r4) := by rw [if_pos rfl] at H; exact H
   clear H
   have H := H1
   clear H1
   have H' := Aside0.mk H
   clear H
   go_wp2
   go_meet
   case rel => exact ⟨_, (a4), (by first | rfl | (simp; done) | (simp [*]; done)), H', ⟨by first | omega | exact Nat.le_refl _⟩, ⟨kb_ BK219.out⟩, ⟨bw_ HB.out⟩⟩
  ·replace c8 := Bool.eq_false_iff.mpr c8
   subst c8
   have H1 : (num_Grow.j0 k a0 a1 a2 a4 false) = some (r1, r2, r3, r4) := by rw [if_neg (show ¬ (false = true) by decide)] at H; exact H
   clear H
   have H := H1
   clear H1
   have H' := Aside0.mk H
   clear H
   go_wp2
   go_meet
   case rel => exact ⟨_, (false), (by first | rfl | (simp; done) | (simp [*]; done)), H', ⟨by first | omega | exact Nat.le_refl _⟩, ⟨kb_ BK219.out⟩, ⟨bw_ HB.out⟩⟩
 case rest =>
  clear HC6
  try clear p2
  try clear c4
  try clear c8
  obtain ⟨kq, x14_5, rfl, HA, HJ5, BK219, HB⟩ := hcut
  cases kq with
  | zero => exact absurd HA.out (by simp [num_Grow.j0])
  | succ kj5 =>
   have H := HA.out
   clear HA
   simp only [num_Grow.j0] at H
   by_cases c9 : x14_5 = true
   ·subst c9
    have H1 : (if (IntKind.u64.wrap (a1 + 1)) = 0 then ((num_Bound.f kj5 a0 9223372036854775808 (wrap64 (a2 + 1)) a4).bind fun bt220 => (some (bt220.1, bt220.2.1, bt220.2.2.1, bt220.2.2.2))) else ((num_Bound.f kj5 a0 (IntKind.u64.wrap (a1 + 1)) a2 a4).bind fun bt224 => (some (bt224.1, bt224.2.1, bt224.2.2.1, bt224.2.2.2)))) = some (r1, r2, r3, r4) := by rw [if_pos rfl] at H; exact H
    clear H
    have H := H1
    clear H1
    by_cases c10 : (IntKind.u64.wrap (a1 + 1)) = 0
    ·rw [if_pos c10] at H
     have c10b0 : ((IntKind.u64.wrap (a1 + 1)) == 0) = true := beq_iff_eq.mpr c10
     have c10b1 : ((IntKind.u64.wrap (a1 + 1)) != 0) = false := bne_eq_false_iff_eq.mpr c10
     clear c10
     replace H := Option.bind_eq_some_iff.mp H
     obtain ⟨⟨t220, t221, t222, t223⟩, A110, H⟩ := H
     (try dsimp only at H)
     have A11 := Aside0.mk A110
     clear A110
     simp only [Option.some.injEq, Prod.mk.injEq] at H
     obtain ⟨rfl, rfl, rfl, rfl⟩ := H
     go_wp2_with (first | ((with_reducible refine gate_callee (f := 39) rfl ?_); refine gl_ (some 25) Tryd.func39 #[.bool a0, .int .u64 9223372036854775808, .int .i64 (wrap64 (a2 + 1)), .bool a4] ?_; (with_reducible refine (num_Bound.calls kj5 a0 9223372036854775808 (wrap64 (a2 + 1)) a4 t220 t221 t222 t223 _ A11.out).mono ?_); rintro e w12 ⟨rfl, hb⟩; refine ⟨_, rfl, ?_⟩; replace BK219 := kq_ BK219 hb; replace HB := bq_ HB hb; (try clear hb); (try clear hb2); (try clear hk); (try clear hi); obtain ⟨hcz13_0, hcz13_1, hcz13_2, hcz13_3, hfz13_0, hfz13_1, hfz13_2, hfz13_3⟩ := c4_ BK219))
     refine bodyPost_ret (results_cell_row rfl _ _ gb219 30 #[.int .i64 t220, .bool t221, .int .u64 t222, .int .i64 t223] (0, 0) _ rfl (by refine kb_ ?_; refine bp_ #[.int .i64 t220, .bool t221, .int .u64 t222, .int .i64 0] 3 ?_; refine bp_ #[.int .i64 t220, .bool t221, .int .u64 0, .int .i64 0] 2 ?_; refine bp_ #[.int .i64 t220, .bool false, .int .u64 0, .int .i64 0] 1 ?_; refine bp_ #[.int .i64 0, .bool false, .int .u64 0, .int .i64 0] 0 ?_; exact BK219.out) Tryd.underlying30 rfl (by kernel_rfl)) rfl ?_
     exact ⟨rf_, bw_ HB.out⟩
    ·rw [if_neg c10] at H
     have c10b0 : ((IntKind.u64.wrap (a1 + 1)) == 0) = false := beq_eq_false_iff_ne.mpr c10
     have c10b1 : ((IntKind.u64.wrap (a1 + 1)) != 0) = true := bne_iff_ne.mpr c10
     replace H := Option.bind_eq_some_iff.mp H
     obtain ⟨⟨t224, t225, t226, t227⟩, A140, H⟩ := H
     (try dsimp only at H)
     have A14 := Aside0.mk A140
     clear A140
     simp only [Option.some.injEq, Prod.mk.injEq] at H
     obtain ⟨rfl, rfl, rfl, rfl⟩ := H
     go_wp2_with (first | ((with_reducible refine gate_callee (f := 39) rfl ?_); refine gl_ (some 25) Tryd.func39 #[.bool a0, .int .u64 (IntKind.u64.wrap (a1 + 1)), .int .i64 a2, .bool a4] ?_; (with_reducible refine (num_Bound.calls kj5 a0 (IntKind.u64.wrap (a1 + 1)) a2 a4 t224 t225 t226 t227 _ A14.out).mono ?_); rintro e w15 ⟨rfl, hb⟩; refine ⟨_, rfl, ?_⟩; replace BK219 := kq_ BK219 hb; replace HB := bq_ HB hb; (try clear hb); (try clear hb2); (try clear hk); (try clear hi); obtain ⟨hcz16_0, hcz16_1, hcz16_2, hcz16_3, hfz16_0, hfz16_1, hfz16_2, hfz16_3⟩ := c4_ BK219))
     refine bodyPost_ret (results_cell_row rfl _ _ gb219 30 #[.int .i64 t224, .bool t225, .int .u64 t226, .int .i64 t227] (0, 0) _ rfl (by refine kb_ ?_; refine bp_ #[.int .i64 t224, .bool t225, .int .u64 t226, .int .i64 0] 3 ?_; refine bp_ #[.int .i64 t224, .bool t225, .int .u64 0, .int .i64 0] 2 ?_; refine bp_ #[.int .i64 t224, .bool false, .int .u64 0, .int .i64 0] 1 ?_; refine bp_ #[.int .i64 0, .bool false, .int .u64 0, .int .i64 0] 0 ?_; exact BK219.out) Tryd.underlying30 rfl (by kernel_rfl)) rfl ?_
     exact ⟨rf_, bw_ HB.out⟩
   ·replace c9 := Bool.eq_false_iff.mpr c9
    subst c9
    have H1 : ((num_Bound.f kj5 a0 a1 a2 a4).bind fun bt228 => (some (bt228.1, bt228.2.1, bt228.2.2.1, bt228.2.2.2))) = some (r1, r2, r3, r4) := by rw [if_neg (show ¬ (false = true) by decide)] at H; exact H
    clear H
    have H := H1
    clear H1
    replace H := Option.bind_eq_some_iff.mp H
    obtain ⟨⟨t228, t229, t230, t231⟩, A170, H⟩ := H
    (try dsimp only at H)
    have A17 := Aside0.mk A170
    clear A170
    simp only [Option.some.injEq, Prod.mk.injEq] at H
    obtain ⟨rfl, rfl, rfl, rfl⟩ := H
    go_wp2_with (first | ((with_reducible refine gate_callee (f := 39) rfl ?_); refine gl_ (some 25) Tryd.func39 #[.bool a0, .int .u64 a1, .int .i64 a2, .bool a4] ?_; (with_reducible refine (num_Bound.calls kj5 a0 a1 a2 a4 t228 t229 t230 t231 _ A17.out).mono ?_); rintro e w18 ⟨rfl, hb⟩; refine ⟨_, rfl, ?_⟩; replace BK219 := kq_ BK219 hb; replace HB := bq_ HB hb; (try clear hb); (try clear hb2); (try clear hk); (try clear hi); obtain ⟨hcz19_0, hcz19_1, hcz19_2, hcz19_3, hfz19_0, hfz19_1, hfz19_2, hfz19_3⟩ := c4_ BK219))
    refine bodyPost_ret (results_cell_row rfl _ _ gb219 30 #[.int .i64 t228, .bool t229, .int .u64 t230, .int .i64 t231] (0, 0) _ rfl (by refine kb_ ?_; refine bp_ #[.int .i64 t228, .bool t229, .int .u64 t230, .int .i64 0] 3 ?_; refine bp_ #[.int .i64 t228, .bool t229, .int .u64 0, .int .i64 0] 2 ?_; refine bp_ #[.int .i64 t228, .bool false, .int .u64 0, .int .i64 0] 1 ?_; refine bp_ #[.int .i64 0, .bool false, .int .u64 0, .int .i64 0] 0 ?_; exact BK219.out) Tryd.underlying30 rfl (by kernel_rfl)) rfl ?_
    exact ⟨rf_, bw_ HB.out⟩

/-! ### num_Round: function 12 -/
theorem num_Round.tab7 : rtab .any (opsOf Tryd.f12 7) = num_Round.T7 := by kernel_rfl
theorem num_Round.bits7 : waitsOk num_Round.T7.2 num_Round.B7 = true := by kernel_rfl
def num_Round.T8 : Bool × List (List Nat × List Nat) := (true, [([], []), ([0], [0]), ([1], [1]), ([], []), ([3], [3]), ([4], [4]), ([], []), ([6], [6]), ([5, 7], [5, 7]), ([8, 8], [8]), ([], []), ([10], [10]), ([], []), ([11, 12], [11, 12]), ([13], [13]), ([], []), ([2, 9, 14, 15, 9], [2, 9, 14, 15]), ([16, 16, 0, 1, 2, 3, 4, 5, 6, 7, 8, 9, 10, 11, 12, 13, 14, 15, 16], [16])])
def num_Round.B8 : List Nat := [0, 1, 3, 0, 8, 24, 0, 64, 248, 504, 0, 1024, 0, 7168, 15360, 0, 65535, 131071]
theorem num_Round.tab8 : rtab .any (opsOf Tryd.f12 8) = num_Round.T8 := by kernel_rfl
theorem num_Round.bits8 : waitsOk num_Round.T8.2 num_Round.B8 = true := by kernel_rfl
set_option maxHeartbeats 8000000 in
set_option maxRecDepth 100000 in
theorem num_Round.calls (k : Nat) (a0_0 : Bool) (A0_1 : Option Addr) (c0_1 : Nat) (l0_1 : List Int) (a0_2 : Int) (a1 : Bool) (r1 : Int) (r2 : Bool) (r3 : Int) (r4 : Int) (w : World) (hr0_1 : Kd.C (Kd.int .u32) w A0_1 l0_1.length l0_1) (hc0_1 : l0_1.length ≤ c0_1) (h : num_Round.f k a0_0 l0_1 a0_2 a1 = some (r1, r2, r3, r4)) (htab_ : Kd.C (Kd.int .u8) w (some ⟨0, 0, none⟩) 32 tz32tab) :
  Calls Tryd.prog 12 #[.agg #[.bool a0_0, .slice A0_1 l0_1.length c0_1, .int .i64 a0_2], .bool a1] w fun e w' => e = .returned (.agg #[.int .i64 r1, .bool r2, .int .u64 r3, .int .i64 r4]) ∧ Below w.heap.size w w' := by
 have HTAB := Aside0.mk htab_
 clear htab_
 have hu26 := Tryd.underlying26
 have hu30 := Tryd.underlying30
 have HR0_1 := Aside0.mk hr0_1
 have HC0_1 := Aside0.mk hc0_1
 clear hr0_1 hc0_1
 have HB := Aside0.mk (Below.refl w.heap.size w)
 have H : ((dy_Move.f k a0_0 l0_1 a0_2 0).bind fun bt234 => ((nat_Len.f k bt234.2.1).bind fun t239 => (if t239 = 0 then (some (0, false, 0, 0)) else (if t239 ≤ 64 then ((nat_Shl.f k bt234.2.1 (wrap64 (64 - t239))).bind fun t240 => ((num_word.f k t240).bind fun t243 => ((num_Bound.f k bt234.1 t243 (wrap64 ((wrap64 (bt234.2.2 + t239)) - 64)) (a1 != bt234.1)).bind fun bt244 => (some (bt244.1, bt244.2.1, bt244.2.2.1, bt244.2.2.2))))) else ((nat_Shr.f k bt234.2.1 (wrap64 (t239 - 64))).bind fun t248 => ((num_word.f k t248).bind fun t251 => ((num_Grow.f k bt234.1 t251 (wrap64 ((wrap64 (bt234.2.2 + t239)) - 64)) true (a1 != bt234.1)).bind fun bt252 => (some (bt252.1, bt252.2.1, bt252.2.2.1, bt252.2.2.2))))))))) = some (r1, r2, r3, r4) := h
 clear h
 replace H := Option.bind_eq_some_iff.mp H
 obtain ⟨⟨t234, t235, t238⟩, A30, H⟩ := H
 (try dsimp only at H)
 have A3 := Aside0.mk A30
 clear A30
 replace H := Option.bind_eq_some_iff.mp H
 obtain ⟨t239, A40, H⟩ := H
 (try dsimp only at H)
 have A4 := Aside0.mk A40
 clear A40
 by_cases c5 : t239 = 0
 ·rw [if_pos c5] at H
  have c5b0 : (t239 == 0) = true := beq_iff_eq.mpr c5
  have c5b1 : (t239 != 0) = false := bne_eq_false_iff_eq.mpr c5
  clear c5
  simp only [Option.some.injEq, Prod.mk.injEq] at H
  obtain ⟨rfl, rfl, rfl, rfl⟩ := H
  go_enter Tryd.func12, Tryd.ntmps12
  go_wp2_with (first | ((with_reducible refine gate_dst (N := 2) rfl ?_); refine bx_ 2 #[.bool a0_0, .slice A0_1 l0_1.length c0_1, .int .i64 a0_2] 26 ?_; intro gb232 hg w6 hbox hb; have BK232 := Aside0.mk (hbox); have GW232 := ge_ hg HB; have GE232 := ge_ hg HB; replace HB := bq_ HB hb; clear hb hbox hg) | ((with_reducible refine gate_dst (N := 4) rfl ?_); refine bx_ 4 #[.int .i64 0, .bool false, .int .u64 0, .int .i64 0] 30 ?_; intro gb233 hg w7 hbox hb; have BK233 := Aside0.mk (hbox); have GW233 := ge_ hg HB; have GE233 := ge_ hg HB; have NB232_233 := nb_ hg BK232; have NB233_232 := nc_ hg BK232; replace BK232 := kq_ BK232 hb; replace HB := bq_ HB hb; clear hb hbox hg; have hnb8 := NB232_233.out; have hnc8 := NB233_232.out; obtain ⟨hcz9_0, hcz9_1, hcz9_2, hfz9_0, hfz9_1, hfz9_2⟩ := c3_ BK232) | ((with_reducible refine gate_callee (f := 37) rfl ?_); refine gl_ (some 8) Tryd.func37 #[.agg #[.bool a0_0, .slice A0_1 l0_1.length c0_1, .int .i64 a0_2], .int .i64 0] ?_; (with_reducible refine (dy_Move.calls k a0_0 _ _ l0_1 a0_2 0 t234 t235 t238 _ ?side1 ?side2 A3.out ?sidet).mono ?_); (case sidet => exact Kd.C_below HTAB.out (bw_ HB.out)); (case side1 => exact kc_ (Kd.C_below HR0_1.out HB.out)); (case side2 => exact HC0_1.out); rintro e w10 ⟨v236, rfl, ho0, hb⟩; refine ⟨_, rfl, ?_⟩; have HO237 := Aside0.mk (Kd.R_lower ho0 (below_size (bw_ HB.out))); replace BK232 := kq_ BK232 hb; replace BK233 := kq_ BK233 hb; replace HB := bq_ HB hb; (try clear hb); (try clear hb2); (try clear hk); (try clear hi); (try clear ho0); obtain ⟨hcz11_0, hcz11_1, hcz11_2, hfz11_0, hfz11_1, hfz11_2⟩ := c3_ BK232; obtain ⟨Ao12, co12, eo12⟩ := Kd.R_slice HO237.out; subst eo12) | ((with_reducible refine gate_callee (f := 38) rfl ?_); refine gl_ (some 12) Tryd.func38 #[.slice Ao12 t235.length co12] ?_; (with_reducible refine (nat_Len.calls k _ _ t235 t239 _ ?side1 ?side2 A4.out).mono ?_); (case side1 => refine (Kd.R_reads' (e := 53) (base := w.heap.size) (ok := fun k_ => True) (n := t235.length) (c := co12) ?_).2.2; exact (kr_ ((Kd.R_mono (Kd.R_far (p := ⟨gb232, 2, none⟩) (Kd.R_far (p := ⟨gb232, 1, none⟩) (Kd.R_far (p := ⟨gb232, 0, none⟩) (Kd.R_types HO237.out BK232.out (by decide)) (fun _ hk => hk.2) (.bool t234)) (fun _ hk => hk.2) (.slice Ao12 t235.length co12)) (fun _ hk => hk.2) (.int .i64 t238)) (fun _ h_ => h_.1))))); (case side2 => exact (Kd.R_reads' HO237.out).2.1); rintro e w13 ⟨rfl, hb⟩; refine ⟨_, rfl, ?_⟩; have n0_ := Aside0.mk (Kd.R_below (kr_ ((Kd.R_mono (Kd.R_far (p := ⟨gb232, 2, none⟩) (Kd.R_far (p := ⟨gb232, 1, none⟩) (Kd.R_far (p := ⟨gb232, 0, none⟩) (Kd.R_types HO237.out BK232.out (by decide)) (fun _ hk => hk.2) (.bool t234)) (fun _ hk => hk.2) (.slice Ao12 t235.length co12)) (fun _ hk => hk.2) (.int .i64 t238)) (fun _ h_ => h_.1)))) hb); have n1_ := Aside0.mk (blk_below (g := gb232) (o := .cells #[.bool t234, .slice Ao12 t235.length co12, .int .i64 t238] 26 (0, 0)) (by refine kb_ ?_; refine bp_ #[.bool t234, .slice Ao12 t235.length co12, .int .i64 a0_2] 2 ?_; refine bp_ #[.bool t234, .slice A0_1 l0_1.length c0_1, .int .i64 a0_2] 1 ?_; refine bp_ #[.bool a0_0, .slice A0_1 l0_1.length c0_1, .int .i64 a0_2] 0 ?_; exact BK232.out) hb); have n2_ := Aside0.mk (blk_below (g := gb233) (o := .cells #[.int .i64 0, .bool false, .int .u64 0, .int .i64 0] 30 (0, 0)) (by refine kb_ ?_; refine bf_ NB233_232 ?_; refine bf_ NB233_232 ?_; refine bf_ NB233_232 ?_; exact BK233.out) hb); have n3_ := bq_ HB hb; clear HO237; clear BK232; clear BK233; clear HB; have HO237 := n0_; have BK232 := n1_; have BK233 := n2_; have HB := n3_; clear n0_ n1_ n2_ n3_; (try clear hb); (try clear hb2); (try clear hk); (try clear hi); obtain ⟨hcz14_0, hcz14_1, hcz14_2, hfz14_0, hfz14_1, hfz14_2⟩ := c3_ BK232; obtain ⟨hcz15_0, hcz15_1, hcz15_2, hcz15_3, hfz15_0, hfz15_1, hfz15_2, hfz15_3⟩ := c4_ BK233))
  refine bodyPost_ret (results_cell_row rfl _ _ gb233 30 #[.int .i64 0, .bool false, .int .u64 0, .int .i64 0] (0, 0) _ rfl (by refine kb_ ?_; refine bp_ #[.int .i64 0, .bool false, .int .u64 0, .int .i64 0] 3 ?_; refine bp_ #[.int .i64 0, .bool false, .int .u64 0, .int .i64 0] 2 ?_; refine bp_ #[.int .i64 0, .bool false, .int .u64 0, .int .i64 0] 1 ?_; refine bp_ #[.int .i64 0, .bool false, .int .u64 0, .int .i64 0] 0 ?_; exact BK233.out) Tryd.underlying30 rfl (by kernel_rfl)) rfl ?_
  exact ⟨rf_, bw_ HB.out⟩
 ·rw [if_neg c5] at H
  have c5b0 : (t239 == 0) = false := beq_eq_false_iff_ne.mpr c5
  have c5b1 : (t239 != 0) = true := bne_iff_ne.mpr c5
  by_cases c16 : t239 ≤ 64
  ·rw [if_pos c16] at H
   have c16b0 : decide (t239 ≤ 64) = true := decide_eq_true c16
   clear c16
   replace H := Option.bind_eq_some_iff.mp H
   obtain ⟨t240, A170, H⟩ := H
   (try dsimp only at H)
   have A17 := Aside0.mk A170
   clear A170
   replace H := Option.bind_eq_some_iff.mp H
   obtain ⟨t243, A180, H⟩ := H
   (try dsimp only at H)
   have A18 := Aside0.mk A180
   clear A180
   replace H := Option.bind_eq_some_iff.mp H
   obtain ⟨⟨t244, t245, t246, t247⟩, A190, H⟩ := H
   (try dsimp only at H)
   have A19 := Aside0.mk A190
   clear A190
   simp only [Option.some.injEq, Prod.mk.injEq] at H
   obtain ⟨rfl, rfl, rfl, rfl⟩ := H
   go_enter Tryd.func12, Tryd.ntmps12
   try go_wp2_with (first | ((with_reducible refine gate_dst (N := 2) rfl ?_); refine bx_ 2 #[.bool a0_0, .slice A0_1 l0_1.length c0_1, .int .i64 a0_2] 26 ?_; intro gb232 hg w20 hbox hb; have BK232 := Aside0.mk (hbox); have GW232 := ge_ hg HB; have GE232 := ge_ hg HB; replace HB := bq_ HB hb; clear hb hbox hg) | ((with_reducible refine gate_dst (N := 4) rfl ?_); refine bx_ 4 #[.int .i64 0, .bool false, .int .u64 0, .int .i64 0] 30 ?_; intro gb233 hg w21 hbox hb; have BK233 := Aside0.mk (hbox); have GW233 := ge_ hg HB; have GE233 := ge_ hg HB; have NB232_233 := nb_ hg BK232; have NB233_232 := nc_ hg BK232; replace BK232 := kq_ BK232 hb; replace HB := bq_ HB hb; clear hb hbox hg; have hnb22 := NB232_233.out; have hnc22 := NB233_232.out; obtain ⟨hcz23_0, hcz23_1, hcz23_2, hfz23_0, hfz23_1, hfz23_2⟩ := c3_ BK232) | ((with_reducible refine gate_callee (f := 37) rfl ?_); refine gl_ (some 8) Tryd.func37 #[.agg #[.bool a0_0, .slice A0_1 l0_1.length c0_1, .int .i64 a0_2], .int .i64 0] ?_; (with_reducible refine (dy_Move.calls k a0_0 _ _ l0_1 a0_2 0 t234 t235 t238 _ ?side1 ?side2 A3.out ?sidet).mono ?_); (case sidet => exact Kd.C_below HTAB.out (bw_ HB.out)); (case side1 => exact kc_ (Kd.C_below HR0_1.out HB.out)); (case side2 => exact HC0_1.out); rintro e w24 ⟨v236, rfl, ho0, hb⟩; refine ⟨_, rfl, ?_⟩; have HO237 := Aside0.mk (Kd.R_lower ho0 (below_size (bw_ HB.out))); replace BK232 := kq_ BK232 hb; replace BK233 := kq_ BK233 hb; replace HB := bq_ HB hb; (try clear hb); (try clear hb2); (try clear hk); (try clear hi); (try clear ho0); obtain ⟨hcz25_0, hcz25_1, hcz25_2, hfz25_0, hfz25_1, hfz25_2⟩ := c3_ BK232; obtain ⟨Ao26, co26, eo26⟩ := Kd.R_slice HO237.out; subst eo26) | ((with_reducible refine gate_callee (f := 38) rfl ?_); refine gl_ (some 12) Tryd.func38 #[.slice Ao26 t235.length co26] ?_; (with_reducible refine (nat_Len.calls k _ _ t235 t239 _ ?side1 ?side2 A4.out).mono ?_); (case side1 => refine (Kd.R_reads' (e := 53) (base := w.heap.size) (ok := fun k_ => True) (n := t235.length) (c := co26) ?_).2.2; exact (kr_ ((Kd.R_mono (Kd.R_far (p := ⟨gb232, 2, none⟩) (Kd.R_far (p := ⟨gb232, 1, none⟩) (Kd.R_far (p := ⟨gb232, 0, none⟩) (Kd.R_types HO237.out BK232.out (by decide)) (fun _ hk => hk.2) (.bool t234)) (fun _ hk => hk.2) (.slice Ao26 t235.length co26)) (fun _ hk => hk.2) (.int .i64 t238)) (fun _ h_ => h_.1))))); (case side2 => exact (Kd.R_reads' HO237.out).2.1); rintro e w27 ⟨rfl, hb⟩; refine ⟨_, rfl, ?_⟩; have n0_ := Aside0.mk (Kd.R_below (kr_ ((Kd.R_mono (Kd.R_far (p := ⟨gb232, 2, none⟩) (Kd.R_far (p := ⟨gb232, 1, none⟩) (Kd.R_far (p := ⟨gb232, 0, none⟩) (Kd.R_types HO237.out BK232.out (by decide)) (fun _ hk => hk.2) (.bool t234)) (fun _ hk => hk.2) (.slice Ao26 t235.length co26)) (fun _ hk => hk.2) (.int .i64 t238)) (fun _ h_ => h_.1)))) hb); have n1_ := Aside0.mk (blk_below (g := gb232) (o := .cells #[.bool t234, .slice Ao26 t235.length co26, .int .i64 t238] 26 (0, 0)) (by refine kb_ ?_; refine bp_ #[.bool t234, .slice Ao26 t235.length co26, .int .i64 a0_2] 2 ?_; refine bp_ #[.bool t234, .slice A0_1 l0_1.length c0_1, .int .i64 a0_2] 1 ?_; refine bp_ #[.bool a0_0, .slice A0_1 l0_1.length c0_1, .int .i64 a0_2] 0 ?_; exact BK232.out) hb); have n2_ := Aside0.mk (blk_below (g := gb233) (o := .cells #[.int .i64 0, .bool false, .int .u64 0, .int .i64 0] 30 (0, 0)) (by refine kb_ ?_; refine bf_ NB233_232 ?_; refine bf_ NB233_232 ?_; refine bf_ NB233_232 ?_; exact BK233.out) hb); have n3_ := bq_ HB hb; clear HO237; clear BK232; clear BK233; clear HB; have HO237 := n0_; have BK232 := n1_; have BK233 := n2_; have HB := n3_; clear n0_ n1_ n2_ n3_; (try clear hb); (try clear hb2); (try clear hk); (try clear hi); obtain ⟨hcz28_0, hcz28_1, hcz28_2, hfz28_0, hfz28_1, hfz28_2⟩ := c3_ BK232))
   replace HO237 := Aside0.mk (Kd.R_drew HO237.out)
   replace BK232 := Aside0.mk (blk_drew BK232.out)
   replace BK233 := Aside0.mk (blk_drew BK233.out)
   replace HB := Aside0.mk (below_drew1 HB.out)
   refine start_ (n := 18) (S := fun w' => w'.cell? ⟨gb232, 0, none⟩ = some (.bool t234) ∧ w'.cell? ⟨gb232, 1, none⟩ = some (.slice Ao26 t235.length co26) ∧ w'.cell? ⟨gb232, 2, none⟩ = some (.int .i64 t238)) (ds := []) #[false, false, false, false, false, false, false, false, false, false, false, false, false, false, false, false, false, false] (by kernel_rfl) rfl rfl ⟨(blk_cell BK232.out 0).trans rfl, (blk_cell BK232.out 1).trans rfl, (blk_cell BK232.out 2).trans rfl⟩ (fun hHeld => ?_); refine with_tabW num_Round.tab7 num_Round.bits7 (fun HT_ HW_ => ?_)
   generalize w27.drew = w29 at HO237 BK232 BK233 HB hHeld ⊢
   refine pure_ (i := 0) (N := some 25) (v := ?_) (a' := ?_) #[true, false, false, false, false, false, false, false, false, false, false, false, false, false, false, false, false, false] rfl rfl (any_of HT_.out (by kernel_rfl)) (fun _ _ _ h => h) (Or.inl ⟨by rfl, ?_⟩) ?_ ?_
   rotate_left
   ·intro w'
    go_simp
    with_reducible rfl
   rotate_left
   ·exact pt_
   refine pure_ (i := 1) (N := some 26) (v := ?_) (a' := ?_) #[true, true, false, false, false, false, false, false, false, false, false, false, false, false, false, false, false, false] rfl rfl (any_of HT_.out (by kernel_rfl)) (fun _ _ _ h => h) (Or.inl ⟨by rfl, ?_⟩) ?_ ?_
   rotate_left
   ·intro w'
    go_simp
    with_reducible rfl
   rotate_left
   ·exact pt_
   refine pure_ (i := 3) (N := some 28) (v := ?_) (a' := ?_) #[true, true, false, true, false, false, false, false, false, false, false, false, false, false, false, false, false, false] rfl rfl (any_of HT_.out (by kernel_rfl)) (fun _ _ _ h => h) (Or.inl ⟨by rfl, ?_⟩) ?_ ?_
   rotate_left
   ·intro w'
    go_simp
    with_reducible rfl
   rotate_left
   ·exact pt_
   refine pure_ (i := 4) (N := some 29) (v := ?_) (a' := ?_) #[true, true, false, true, true, false, false, false, false, false, false, false, false, false, false, false, false, false] rfl rfl (any_of HT_.out (by kernel_rfl)) (fun _ _ _ h => h) (Or.inl ⟨by rfl, ?_⟩) ?_ ?_
   rotate_left
   ·intro w'
    go_simp
    with_reducible rfl
   rotate_left
   ·exact pt_
   refine pure_ (i := 6) (N := some 31) (v := ?_) (a' := ?_) #[true, true, false, true, true, false, true, false, false, false, false, false, false, false, false, false, false, false] rfl rfl (any_of HT_.out (by kernel_rfl)) (fun _ _ _ h => h) (Or.inl ⟨by rfl, ?_⟩) ?_ ?_
   rotate_left
   ·intro w'
    go_simp
    with_reducible rfl
   rotate_left
   ·exact pt_
   refine pure_ (i := 7) (N := some 32) (v := ?_) (a' := ?_) #[true, true, false, true, true, false, true, true, false, false, false, false, false, false, false, false, false, false] rfl rfl (any_of HT_.out (by kernel_rfl)) (fun _ _ _ h => h) (Or.inl ⟨by rfl, ?_⟩) ?_ ?_
   rotate_left
   ·intro w'
    go_simp
    with_reducible rfl
   rotate_left
   ·exact pt_
   refine pure_ (i := 10) (N := some 35) (v := ?_) (a' := ?_) #[true, true, false, true, true, false, true, true, false, false, true, false, false, false, false, false, false, false] rfl rfl (any_of HT_.out (by kernel_rfl)) (fun _ _ _ h => h) (Or.inl ⟨by rfl, ?_⟩) ?_ ?_
   rotate_left
   ·intro w'
    go_simp
    with_reducible rfl
   rotate_left
   ·exact pt_
   refine pure_ (i := 12) (N := some 37) (v := ?_) (a' := ?_) #[true, true, false, true, true, false, true, true, false, false, true, false, true, false, false, false, false, false] rfl rfl (any_of HT_.out (by kernel_rfl)) (fun _ _ _ h => h) (Or.inl ⟨by rfl, ?_⟩) ?_ ?_
   rotate_left
   ·intro w'
    go_simp
    with_reducible rfl
   rotate_left
   ·exact pt_
   refine pure_ (i := 15) (N := some 40) (v := ?_) (a' := ?_) #[true, true, false, true, true, false, true, true, false, false, true, false, true, false, false, true, false, false] rfl rfl (any_of HT_.out (by kernel_rfl)) (fun _ _ _ h => h) (Or.inl ⟨by rfl, ?_⟩) ?_ ?_
   rotate_left
   ·intro w'
    go_simp
    with_reducible rfl
   rotate_left
   ·exact pt_
   refine take_ (i := 2) (N := some 27) (v := ?_) (a' := ?_) #[true, true, true, true, true, false, true, true, false, false, true, false, true, false, false, true, false, false] rfl rfl (take_ofW HT_.out HW_.out (by kernel_rfl)) (fun _ _ _ h => h) (Or.inl ⟨by rfl, ?_⟩) hHeld ?_ ?_
   rotate_left
   ·rintro w' ⟨s0, s1, s2⟩
    go_simp
    with_reducible rfl
   rotate_left
   ·exact pt_
   refine take_ (i := 5) (N := some 30) (v := ?_) (a' := ?_) #[true, true, true, true, true, true, true, true, false, false, true, false, true, false, false, true, false, false] rfl rfl (take_ofW HT_.out HW_.out (by kernel_rfl)) (fun _ _ _ h => h) (Or.inl ⟨by rfl, ?_⟩) hHeld ?_ ?_
   rotate_left
   ·rintro w' ⟨s0, s1, s2⟩
    go_simp
    with_reducible rfl
   rotate_left
   ·exact pt_
   refine take_ (i := 11) (N := some 36) (v := ?_) (a' := ?_) #[true, true, true, true, true, true, true, true, false, false, true, true, true, false, false, true, false, false] rfl rfl (take_ofW HT_.out HW_.out (by kernel_rfl)) (fun _ _ _ h => h) (Or.inl ⟨by rfl, ?_⟩) hHeld ?_ ?_
   rotate_left
   ·rintro w' ⟨s0, s1, s2⟩
    go_simp
    with_reducible rfl
   rotate_left
   ·exact pt_
   refine pure_ (i := 13) (N := some 38) (v := ?_) (a' := ?_) #[true, true, true, true, true, true, true, true, false, false, true, true, true, true, false, true, false, false] rfl rfl (any_of HT_.out (by kernel_rfl)) (fun _ _ _ h => h) (Or.inl ⟨by rfl, ?_⟩) ?_ ?_
   rotate_left
   ·intro w'
    go_simp
    with_reducible rfl
   rotate_left
   ·exact pt_
   refine pure_ (i := 14) (N := some 39) (v := ?_) (a' := ?_) #[true, true, true, true, true, true, true, true, false, false, true, true, true, true, true, true, false, false] rfl rfl (any_of HT_.out (by kernel_rfl)) (fun _ _ _ h => h) (Or.inl ⟨by rfl, ?_⟩) ?_ ?_
   rotate_left
   ·intro w'
    go_simp
    with_reducible rfl
   rotate_left
   ·exact pt_
   refine one_ (i := 8) (N := some 33) #[true, true, true, true, true, true, true, true, true, false, true, true, true, true, true, true, false, false] rfl rfl (one_of HT_.out (by kernel_rfl)) (by decide) (fun K hK => ?_)
   refine gs_ Tryd.func41 #[.slice Ao26 t235.length co26, .int .i64 (wrap64 (64 - t239))] ?_
   with_reducible refine (nat_Shl.calls k _ _ t235 (wrap64 (64 - t239)) t240 _ ?side1 ?side2 A17.out).mono ?_
   (case side1 => exact kc_ (Kd.R_reads' HO237.out).2.2)
   (case side2 => exact (Kd.R_reads' HO237.out).2.1)
   rintro e w30 ⟨v241, rfl, ho0, hb⟩
   refine ⟨_, rfl, ?_⟩
   have HO242 := Aside0.mk (Kd.R_lower (Kd.R_new' ho0 (Kd.R_lt (kr_ HO237.out))) (below_size (bw_ HB.out)))
   replace HO237 := Aside0.mk (Kd.R_elder' (kr_ HO237.out) (Kd.R_base ho0) hb)
   replace BK232 := kq_ BK232 hb
   replace BK233 := kq_ BK233 hb
   replace HB := bq_ HB hb
   (try clear hb)
   (try clear hb2)
   (try clear hk)
   (try clear hi)
   (try clear ho0)
   obtain ⟨Ao31, co31, eo31⟩ := Kd.R_slice HO242.out
   (first | subst eo31 | (injection eo31 with f1_ f2_ f3_; have f4_ := f1_.symm; have f5_ := f3_.symm; clear f1_ f2_ f3_; subst f4_; subst f5_))
   refine hK.out _ _ ⟨(blk_cell BK232.out 0).trans rfl, (blk_cell BK232.out 1).trans rfl, (blk_cell BK232.out 2).trans rfl⟩ (fun hHeld => ?_)
   clear hK K
   refine norm_ (a' := ?_) ?_ ?_
   rotate_left
   ·show Act.put _ (some 33) _ = _
    exact pt_
   refine one_ (i := 9) (N := some 34) #[true, true, true, true, true, true, true, true, true, true, true, true, true, true, true, true, false, false] rfl rfl (one_of HT_.out (by kernel_rfl)) (by decide) (fun K hK => ?_)
   refine gs_ Tryd.func40 #[.slice Ao31 t240.length co31] ?_
   with_reducible refine (num_word.calls k _ _ t240 t243 _ ?side1 ?side2 A18.out).mono ?_
   (case side1 => exact kc_ (Kd.R_reads' HO242.out).2.2)
   (case side2 => exact (Kd.R_reads' HO242.out).2.1)
   rintro e w' ⟨rfl, ⟨nd, rfl⟩⟩
   refine ⟨_, rfl, ?_⟩
   refine hK.out _ _ ⟨(blk_cell BK232.out 0).trans rfl, (blk_cell BK232.out 1).trans rfl, (blk_cell BK232.out 2).trans rfl⟩ (fun hHeld => ?_)
   clear hK K
   refine norm_ (a' := ?_) ?_ ?_
   rotate_left
   ·show Act.put _ (some 34) _ = _
    exact pt_
   refine one_ (i := 16) (N := some 41) #[true, true, true, true, true, true, true, true, true, true, true, true, true, true, true, true, true, false] rfl rfl (one_of HT_.out (by kernel_rfl)) (by decide) (fun K hK => ?_)
   refine gs_ Tryd.func39 #[.bool t234, .int .u64 t243, .int .i64 (wrap64 ((wrap64 (t238 + t239)) - 64)), .bool (a1 != t234)] ?_
   with_reducible refine (num_Bound.calls k t234 t243 (wrap64 ((wrap64 (t238 + t239)) - 64)) (a1 != t234) t244 t245 t246 t247 _ A19.out).mono ?_
   rintro e w32 ⟨rfl, hb⟩
   refine ⟨_, rfl, ?_⟩
   replace HO237 := Aside0.mk (Kd.R_below (kr_ HO237.out) hb)
   replace HO242 := Aside0.mk (Kd.R_below (kr_ HO242.out) hb)
   replace BK232 := kq_ BK232 hb
   replace BK233 := kq_ BK233 hb
   replace HB := bq_ HB hb
   (try clear hb)
   (try clear hb2)
   (try clear hk)
   (try clear hi)
   refine hK.out _ _ ⟨(blk_cell BK232.out 0).trans rfl, (blk_cell BK232.out 1).trans rfl, (blk_cell BK232.out 2).trans rfl⟩ (fun hHeld => ?_)
   clear hK K
   refine norm_ (a' := ?_) ?_ ?_
   rotate_left
   ·show Act.put _ (some 41) _ = _
    exact pt_
   refine one_ (i := 17) (N := none) #[true, true, true, true, true, true, true, true, true, true, true, true, true, true, true, true, true, true] rfl rfl (one_of HT_.out (by kernel_rfl)) (by decide) (fun K hK => ?_)
   have hs33 : w32.cell? ⟨gb233, 0, none⟩ = some (.int .i64 0) := (blk_cell BK233.out 0).trans rfl
   have hfs33 := fz_ BK233 0
   have hns33_0 := NB232_233.out
   have hms33_0 := NB233_232.out
   have hs34 : w32.cell? ⟨gb233, 1, none⟩ = some (.bool false) := (blk_cell BK233.out 1).trans rfl
   have hfs34 := fz_ BK233 1
   have hns34_0 := NB232_233.out
   have hms34_0 := NB233_232.out
   have hs35 : w32.cell? ⟨gb233, 2, none⟩ = some (.int .u64 0) := (blk_cell BK233.out 2).trans rfl
   have hfs35 := fz_ BK233 2
   have hns35_0 := NB232_233.out
   have hms35_0 := NB233_232.out
   have hs36 : w32.cell? ⟨gb233, 3, none⟩ = some (.int .i64 0) := (blk_cell BK233.out 3).trans rfl
   have hfs36 := fz_ BK233 3
   have hns36_0 := NB232_233.out
   have hms36_0 := NB233_232.out
   refine skip_ (w1 := ?_) (by rfl) rfl ?_ ?_
   rotate_left
   ·go_simp
    rfl
   refine hK.out _ _ ⟨((cell_far (p := ⟨gb233, _, none⟩) NB232_233.out _).trans (((cell_far (p := ⟨gb233, _, none⟩) NB232_233.out _).trans (((cell_far (p := ⟨gb233, _, none⟩) NB232_233.out _).trans (((cell_far (p := ⟨gb233, _, none⟩) NB232_233.out _).trans (hHeld.1)))))))), ((cell_far (p := ⟨gb233, _, none⟩) NB232_233.out _).trans (((cell_far (p := ⟨gb233, _, none⟩) NB232_233.out _).trans (((cell_far (p := ⟨gb233, _, none⟩) NB232_233.out _).trans (((cell_far (p := ⟨gb233, _, none⟩) NB232_233.out _).trans (hHeld.2.1)))))))), ((cell_far (p := ⟨gb233, _, none⟩) NB232_233.out _).trans (((cell_far (p := ⟨gb233, _, none⟩) NB232_233.out _).trans (((cell_far (p := ⟨gb233, _, none⟩) NB232_233.out _).trans (((cell_far (p := ⟨gb233, _, none⟩) NB232_233.out _).trans (hHeld.2.2))))))))⟩ (fun hHeld => ?_)
   clear hK K
   refine done_ (done_of HT_.out (by kernel_rfl)) ?_
   try go_wp2
   refine bodyPost_ret (results_cell_row rfl _ _ gb233 30 #[.int .i64 t244, .bool t245, .int .u64 t246, .int .i64 t247] (0, 0) _ rfl (by refine kb_ ?_; refine bp_ #[.int .i64 t244, .bool t245, .int .u64 t246, .int .i64 0] 3 ?_; refine bp_ #[.int .i64 t244, .bool t245, .int .u64 0, .int .i64 0] 2 ?_; refine bp_ #[.int .i64 t244, .bool false, .int .u64 0, .int .i64 0] 1 ?_; refine bp_ #[.int .i64 0, .bool false, .int .u64 0, .int .i64 0] 0 ?_; exact BK233.out) Tryd.underlying30 rfl (by kernel_rfl)) rfl ?_
   exact ⟨rf_, bw_ HB.out⟩
  ·rw [if_neg c16] at H
   have c16b0 : decide (t239 ≤ 64) = false := decide_eq_false c16
   clear c16
   replace H := Option.bind_eq_some_iff.mp H
   obtain ⟨t248, A370, H⟩ := H
   (try dsimp only at H)
   have A37 := Aside0.mk A370
   clear A370
   replace H := Option.bind_eq_some_iff.mp H
   obtain ⟨t251, A380, H⟩ := H
   (try dsimp only at H)
   have A38 := Aside0.mk A380
   clear A380
   replace H := Option.bind_eq_some_iff.mp H
   obtain ⟨⟨t252, t253, t254, t255⟩, A390, H⟩ := H
   (try dsimp only at H)
   have A39 := Aside0.mk A390
   clear A390
   simp only [Option.some.injEq, Prod.mk.injEq] at H
   obtain ⟨rfl, rfl, rfl, rfl⟩ := H
   go_enter Tryd.func12, Tryd.ntmps12
   try go_wp2_with (first | ((with_reducible refine gate_dst (N := 2) rfl ?_); refine bx_ 2 #[.bool a0_0, .slice A0_1 l0_1.length c0_1, .int .i64 a0_2] 26 ?_; intro gb232 hg w40 hbox hb; have BK232 := Aside0.mk (hbox); have GW232 := ge_ hg HB; have GE232 := ge_ hg HB; replace HB := bq_ HB hb; clear hb hbox hg) | ((with_reducible refine gate_dst (N := 4) rfl ?_); refine bx_ 4 #[.int .i64 0, .bool false, .int .u64 0, .int .i64 0] 30 ?_; intro gb233 hg w41 hbox hb; have BK233 := Aside0.mk (hbox); have GW233 := ge_ hg HB; have GE233 := ge_ hg HB; have NB232_233 := nb_ hg BK232; have NB233_232 := nc_ hg BK232; replace BK232 := kq_ BK232 hb; replace HB := bq_ HB hb; clear hb hbox hg; have hnb42 := NB232_233.out; have hnc42 := NB233_232.out; obtain ⟨hcz43_0, hcz43_1, hcz43_2, hfz43_0, hfz43_1, hfz43_2⟩ := c3_ BK232) | ((with_reducible refine gate_callee (f := 37) rfl ?_); refine gl_ (some 8) Tryd.func37 #[.agg #[.bool a0_0, .slice A0_1 l0_1.length c0_1, .int .i64 a0_2], .int .i64 0] ?_; (with_reducible refine (dy_Move.calls k a0_0 _ _ l0_1 a0_2 0 t234 t235 t238 _ ?side1 ?side2 A3.out ?sidet).mono ?_); (case sidet => exact Kd.C_below HTAB.out (bw_ HB.out)); (case side1 => exact kc_ (Kd.C_below HR0_1.out HB.out)); (case side2 => exact HC0_1.out); rintro e w44 ⟨v236, rfl, ho0, hb⟩; refine ⟨_, rfl, ?_⟩; have HO237 := Aside0.mk (Kd.R_lower ho0 (below_size (bw_ HB.out))); replace BK232 := kq_ BK232 hb; replace BK233 := kq_ BK233 hb; replace HB := bq_ HB hb; (try clear hb); (try clear hb2); (try clear hk); (try clear hi); (try clear ho0); obtain ⟨hcz45_0, hcz45_1, hcz45_2, hfz45_0, hfz45_1, hfz45_2⟩ := c3_ BK232; obtain ⟨Ao46, co46, eo46⟩ := Kd.R_slice HO237.out; subst eo46) | ((with_reducible refine gate_callee (f := 38) rfl ?_); refine gl_ (some 12) Tryd.func38 #[.slice Ao46 t235.length co46] ?_; (with_reducible refine (nat_Len.calls k _ _ t235 t239 _ ?side1 ?side2 A4.out).mono ?_); (case side1 => refine (Kd.R_reads' (e := 53) (base := w.heap.size) (ok := fun k_ => True) (n := t235.length) (c := co46) ?_).2.2; exact (kr_ ((Kd.R_mono (Kd.R_far (p := ⟨gb232, 2, none⟩) (Kd.R_far (p := ⟨gb232, 1, none⟩) (Kd.R_far (p := ⟨gb232, 0, none⟩) (Kd.R_types HO237.out BK232.out (by decide)) (fun _ hk => hk.2) (.bool t234)) (fun _ hk => hk.2) (.slice Ao46 t235.length co46)) (fun _ hk => hk.2) (.int .i64 t238)) (fun _ h_ => h_.1))))); (case side2 => exact (Kd.R_reads' HO237.out).2.1); rintro e w47 ⟨rfl, hb⟩; refine ⟨_, rfl, ?_⟩; have n0_ := Aside0.mk (Kd.R_below (kr_ ((Kd.R_mono (Kd.R_far (p := ⟨gb232, 2, none⟩) (Kd.R_far (p := ⟨gb232, 1, none⟩) (Kd.R_far (p := ⟨gb232, 0, none⟩) (Kd.R_types HO237.out BK232.out (by decide)) (fun _ hk => hk.2) (.bool t234)) (fun _ hk => hk.2) (.slice Ao46 t235.length co46)) (fun _ hk => hk.2) (.int .i64 t238)) (fun _ h_ => h_.1)))) hb); have n1_ := Aside0.mk (blk_below (g := gb232) (o := .cells #[.bool t234, .slice Ao46 t235.length co46, .int .i64 t238] 26 (0, 0)) (by refine kb_ ?_; refine bp_ #[.bool t234, .slice Ao46 t235.length co46, .int .i64 a0_2] 2 ?_; refine bp_ #[.bool t234, .slice A0_1 l0_1.length c0_1, .int .i64 a0_2] 1 ?_; refine bp_ #[.bool a0_0, .slice A0_1 l0_1.length c0_1, .int .i64 a0_2] 0 ?_; exact BK232.out) hb); have n2_ := Aside0.mk (blk_below (g := gb233) (o := .cells #[.int .i64 0, .bool false, .int .u64 0, .int .i64 0] 30 (0, 0)) (by refine kb_ ?_; refine bf_ NB233_232 ?_; refine bf_ NB233_232 ?_; refine bf_ NB233_232 ?_; exact BK233.out) hb); have n3_ := bq_ HB hb; clear HO237; clear BK232; clear BK233; clear HB; have HO237 := n0_; have BK232 := n1_; have BK233 := n2_; have HB := n3_; clear n0_ n1_ n2_ n3_; (try clear hb); (try clear hb2); (try clear hk); (try clear hi); obtain ⟨hcz48_0, hcz48_1, hcz48_2, hfz48_0, hfz48_1, hfz48_2⟩ := c3_ BK232))
   replace HO237 := Aside0.mk (Kd.R_drew HO237.out)
   replace BK232 := Aside0.mk (blk_drew BK232.out)
   replace BK233 := Aside0.mk (blk_drew BK233.out)
   replace HB := Aside0.mk (below_drew1 HB.out)
   refine start_ (n := 18) (S := fun w' => w'.cell? ⟨gb232, 0, none⟩ = some (.bool t234) ∧ w'.cell? ⟨gb232, 1, none⟩ = some (.slice Ao46 t235.length co46) ∧ w'.cell? ⟨gb232, 2, none⟩ = some (.int .i64 t238)) (ds := []) #[false, false, false, false, false, false, false, false, false, false, false, false, false, false, false, false, false, false] (by kernel_rfl) rfl rfl ⟨(blk_cell BK232.out 0).trans rfl, (blk_cell BK232.out 1).trans rfl, (blk_cell BK232.out 2).trans rfl⟩ (fun hHeld => ?_); refine with_tabW num_Round.tab8 num_Round.bits8 (fun HT_ HW_ => ?_)
   generalize w47.drew = w49 at HO237 BK232 BK233 HB hHeld ⊢
   refine pure_ (i := 0) (N := some 42) (v := ?_) (a' := ?_) #[true, false, false, false, false, false, false, false, false, false, false, false, false, false, false, false, false, false] rfl rfl (any_of HT_.out (by kernel_rfl)) (fun _ _ _ h => h) (Or.inl ⟨by rfl, ?_⟩) ?_ ?_
   rotate_left
   ·intro w'
    go_simp
    with_reducible rfl
   rotate_left
   ·exact pt_
   refine pure_ (i := 1) (N := some 43) (v := ?_) (a' := ?_) #[true, true, false, false, false, false, false, false, false, false, false, false, false, false, false, false, false, false] rfl rfl (any_of HT_.out (by kernel_rfl)) (fun _ _ _ h => h) (Or.inl ⟨by rfl, ?_⟩) ?_ ?_
   rotate_left
   ·intro w'
    go_simp
    with_reducible rfl
   rotate_left
   ·exact pt_
   refine pure_ (i := 3) (N := some 45) (v := ?_) (a' := ?_) #[true, true, false, true, false, false, false, false, false, false, false, false, false, false, false, false, false, false] rfl rfl (any_of HT_.out (by kernel_rfl)) (fun _ _ _ h => h) (Or.inl ⟨by rfl, ?_⟩) ?_ ?_
   rotate_left
   ·intro w'
    go_simp
    with_reducible rfl
   rotate_left
   ·exact pt_
   refine pure_ (i := 4) (N := some 46) (v := ?_) (a' := ?_) #[true, true, false, true, true, false, false, false, false, false, false, false, false, false, false, false, false, false] rfl rfl (any_of HT_.out (by kernel_rfl)) (fun _ _ _ h => h) (Or.inl ⟨by rfl, ?_⟩) ?_ ?_
   rotate_left
   ·intro w'
    go_simp
    with_reducible rfl
   rotate_left
   ·exact pt_
   refine pure_ (i := 6) (N := some 48) (v := ?_) (a' := ?_) #[true, true, false, true, true, false, true, false, false, false, false, false, false, false, false, false, false, false] rfl rfl (any_of HT_.out (by kernel_rfl)) (fun _ _ _ h => h) (Or.inl ⟨by rfl, ?_⟩) ?_ ?_
   rotate_left
   ·intro w'
    go_simp
    with_reducible rfl
   rotate_left
   ·exact pt_
   refine pure_ (i := 7) (N := some 49) (v := ?_) (a' := ?_) #[true, true, false, true, true, false, true, true, false, false, false, false, false, false, false, false, false, false] rfl rfl (any_of HT_.out (by kernel_rfl)) (fun _ _ _ h => h) (Or.inl ⟨by rfl, ?_⟩) ?_ ?_
   rotate_left
   ·intro w'
    go_simp
    with_reducible rfl
   rotate_left
   ·exact pt_
   refine pure_ (i := 10) (N := some 52) (v := ?_) (a' := ?_) #[true, true, false, true, true, false, true, true, false, false, true, false, false, false, false, false, false, false] rfl rfl (any_of HT_.out (by kernel_rfl)) (fun _ _ _ h => h) (Or.inl ⟨by rfl, ?_⟩) ?_ ?_
   rotate_left
   ·intro w'
    go_simp
    with_reducible rfl
   rotate_left
   ·exact pt_
   refine pure_ (i := 12) (N := some 54) (v := ?_) (a' := ?_) #[true, true, false, true, true, false, true, true, false, false, true, false, true, false, false, false, false, false] rfl rfl (any_of HT_.out (by kernel_rfl)) (fun _ _ _ h => h) (Or.inl ⟨by rfl, ?_⟩) ?_ ?_
   rotate_left
   ·intro w'
    go_simp
    with_reducible rfl
   rotate_left
   ·exact pt_
   refine pure_ (i := 15) (N := some 57) (v := ?_) (a' := ?_) #[true, true, false, true, true, false, true, true, false, false, true, false, true, false, false, true, false, false] rfl rfl (any_of HT_.out (by kernel_rfl)) (fun _ _ _ h => h) (Or.inl ⟨by rfl, ?_⟩) ?_ ?_
   rotate_left
   ·intro w'
    go_simp
    with_reducible rfl
   rotate_left
   ·exact pt_
   refine take_ (i := 2) (N := some 44) (v := ?_) (a' := ?_) #[true, true, true, true, true, false, true, true, false, false, true, false, true, false, false, true, false, false] rfl rfl (take_ofW HT_.out HW_.out (by kernel_rfl)) (fun _ _ _ h => h) (Or.inl ⟨by rfl, ?_⟩) hHeld ?_ ?_
   rotate_left
   ·rintro w' ⟨s0, s1, s2⟩
    go_simp
    with_reducible rfl
   rotate_left
   ·exact pt_
   refine take_ (i := 5) (N := some 47) (v := ?_) (a' := ?_) #[true, true, true, true, true, true, true, true, false, false, true, false, true, false, false, true, false, false] rfl rfl (take_ofW HT_.out HW_.out (by kernel_rfl)) (fun _ _ _ h => h) (Or.inl ⟨by rfl, ?_⟩) hHeld ?_ ?_
   rotate_left
   ·rintro w' ⟨s0, s1, s2⟩
    go_simp
    with_reducible rfl
   rotate_left
   ·exact pt_
   refine take_ (i := 11) (N := some 53) (v := ?_) (a' := ?_) #[true, true, true, true, true, true, true, true, false, false, true, true, true, false, false, true, false, false] rfl rfl (take_ofW HT_.out HW_.out (by kernel_rfl)) (fun _ _ _ h => h) (Or.inl ⟨by rfl, ?_⟩) hHeld ?_ ?_
   rotate_left
   ·rintro w' ⟨s0, s1, s2⟩
    go_simp
    with_reducible rfl
   rotate_left
   ·exact pt_
   refine pure_ (i := 13) (N := some 55) (v := ?_) (a' := ?_) #[true, true, true, true, true, true, true, true, false, false, true, true, true, true, false, true, false, false] rfl rfl (any_of HT_.out (by kernel_rfl)) (fun _ _ _ h => h) (Or.inl ⟨by rfl, ?_⟩) ?_ ?_
   rotate_left
   ·intro w'
    go_simp
    with_reducible rfl
   rotate_left
   ·exact pt_
   refine pure_ (i := 14) (N := some 56) (v := ?_) (a' := ?_) #[true, true, true, true, true, true, true, true, false, false, true, true, true, true, true, true, false, false] rfl rfl (any_of HT_.out (by kernel_rfl)) (fun _ _ _ h => h) (Or.inl ⟨by rfl, ?_⟩) ?_ ?_
   rotate_left
   ·intro w'
    go_simp
    with_reducible rfl
   rotate_left
   ·exact pt_
   refine one_ (i := 8) (N := some 50) #[true, true, true, true, true, true, true, true, true, false, true, true, true, true, true, true, false, false] rfl rfl (one_of HT_.out (by kernel_rfl)) (by decide) (fun K hK => ?_)
   refine gs_ Tryd.func43 #[.slice Ao46 t235.length co46, .int .i64 (wrap64 (t239 - 64))] ?_
   with_reducible refine (nat_Shr.calls k _ _ t235 (wrap64 (t239 - 64)) t248 _ ?side1 ?side2 A37.out).mono ?_
   (case side1 => exact kc_ (Kd.R_reads' HO237.out).2.2)
   (case side2 => exact (Kd.R_reads' HO237.out).2.1)
   rintro e w50 ⟨v249, rfl, ho0, hb⟩
   refine ⟨_, rfl, ?_⟩
   have HO250 := Aside0.mk (Kd.R_lower (Kd.R_new' ho0 (Kd.R_lt (kr_ HO237.out))) (below_size (bw_ HB.out)))
   replace HO237 := Aside0.mk (Kd.R_elder' (kr_ HO237.out) (Kd.R_base ho0) hb)
   replace BK232 := kq_ BK232 hb
   replace BK233 := kq_ BK233 hb
   replace HB := bq_ HB hb
   (try clear hb)
   (try clear hb2)
   (try clear hk)
   (try clear hi)
   (try clear ho0)
   obtain ⟨Ao51, co51, eo51⟩ := Kd.R_slice HO250.out
   (first | subst eo51 | (injection eo51 with f1_ f2_ f3_; have f4_ := f1_.symm; have f5_ := f3_.symm; clear f1_ f2_ f3_; subst f4_; subst f5_))
   refine hK.out _ _ ⟨(blk_cell BK232.out 0).trans rfl, (blk_cell BK232.out 1).trans rfl, (blk_cell BK232.out 2).trans rfl⟩ (fun hHeld => ?_)
   clear hK K
   refine norm_ (a' := ?_) ?_ ?_
   rotate_left
   ·show Act.put _ (some 50) _ = _
    exact pt_
   refine one_ (i := 9) (N := some 51) #[true, true, true, true, true, true, true, true, true, true, true, true, true, true, true, true, false, false] rfl rfl (one_of HT_.out (by kernel_rfl)) (by decide) (fun K hK => ?_)
   refine gs_ Tryd.func40 #[.slice Ao51 t248.length co51] ?_
   with_reducible refine (num_word.calls k _ _ t248 t251 _ ?side1 ?side2 A38.out).mono ?_
   (case side1 => exact kc_ (Kd.R_reads' HO250.out).2.2)
   (case side2 => exact (Kd.R_reads' HO250.out).2.1)
   rintro e w' ⟨rfl, ⟨nd, rfl⟩⟩
   refine ⟨_, rfl, ?_⟩
   refine hK.out _ _ ⟨(blk_cell BK232.out 0).trans rfl, (blk_cell BK232.out 1).trans rfl, (blk_cell BK232.out 2).trans rfl⟩ (fun hHeld => ?_)
   clear hK K
   refine norm_ (a' := ?_) ?_ ?_
   rotate_left
   ·show Act.put _ (some 51) _ = _
    exact pt_
   refine one_ (i := 16) (N := some 58) #[true, true, true, true, true, true, true, true, true, true, true, true, true, true, true, true, true, false] rfl rfl (one_of HT_.out (by kernel_rfl)) (by decide) (fun K hK => ?_)
   refine gs_ Tryd.func42 #[.bool t234, .int .u64 t251, .int .i64 (wrap64 ((wrap64 (t238 + t239)) - 64)), .bool true, .bool (a1 != t234)] ?_
   with_reducible refine (num_Grow.calls k t234 t251 (wrap64 ((wrap64 (t238 + t239)) - 64)) true (a1 != t234) t252 t253 t254 t255 _ A39.out).mono ?_
   rintro e w52 ⟨rfl, hb⟩
   refine ⟨_, rfl, ?_⟩
   replace HO237 := Aside0.mk (Kd.R_below (kr_ HO237.out) hb)
   replace HO250 := Aside0.mk (Kd.R_below (kr_ HO250.out) hb)
   replace BK232 := kq_ BK232 hb
   replace BK233 := kq_ BK233 hb
   replace HB := bq_ HB hb
   (try clear hb)
   (try clear hb2)
   (try clear hk)
   (try clear hi)
   refine hK.out _ _ ⟨(blk_cell BK232.out 0).trans rfl, (blk_cell BK232.out 1).trans rfl, (blk_cell BK232.out 2).trans rfl⟩ (fun hHeld => ?_)
   clear hK K
   refine norm_ (a' := ?_) ?_ ?_
   rotate_left
   ·show Act.put _ (some 58) _ = _
    exact pt_
   refine one_ (i := 17) (N := none) #[true, true, true, true, true, true, true, true, true, true, true, true, true, true, true, true, true, true] rfl rfl (one_of HT_.out (by kernel_rfl)) (by decide) (fun K hK => ?_)
   have hs53 : w52.cell? ⟨gb233, 0, none⟩ = some (.int .i64 0) := (blk_cell BK233.out 0).trans rfl
   have hfs53 := fz_ BK233 0
   have hns53_0 := NB232_233.out
   have hms53_0 := NB233_232.out
   have hs54 : w52.cell? ⟨gb233, 1, none⟩ = some (.bool false) := (blk_cell BK233.out 1).trans rfl
   have hfs54 := fz_ BK233 1
   have hns54_0 := NB232_233.out
   have hms54_0 := NB233_232.out
   have hs55 : w52.cell? ⟨gb233, 2, none⟩ = some (.int .u64 0) := (blk_cell BK233.out 2).trans rfl
   have hfs55 := fz_ BK233 2
   have hns55_0 := NB232_233.out
   have hms55_0 := NB233_232.out
   have hs56 : w52.cell? ⟨gb233, 3, none⟩ = some (.int .i64 0) := (blk_cell BK233.out 3).trans rfl
   have hfs56 := fz_ BK233 3
   have hns56_0 := NB232_233.out
   have hms56_0 := NB233_232.out
   refine skip_ (w1 := ?_) (by rfl) rfl ?_ ?_
   rotate_left
   ·go_simp
    rfl
   refine hK.out _ _ ⟨((cell_far (p := ⟨gb233, _, none⟩) NB232_233.out _).trans (((cell_far (p := ⟨gb233, _, none⟩) NB232_233.out _).trans (((cell_far (p := ⟨gb233, _, none⟩) NB232_233.out _).trans (((cell_far (p := ⟨gb233, _, none⟩) NB232_233.out _).trans (hHeld.1)))))))), ((cell_far (p := ⟨gb233, _, none⟩) NB232_233.out _).trans (((cell_far (p := ⟨gb233, _, none⟩) NB232_233.out _).trans (((cell_far (p := ⟨gb233, _, none⟩) NB232_233.out _).trans (((cell_far (p := ⟨gb233, _, none⟩) NB232_233.out _).trans (hHeld.2.1)))))))), ((cell_far (p := ⟨gb233, _, none⟩) NB232_233.out _).trans (((cell_far (p := ⟨gb233, _, none⟩) NB232_233.out _).trans (((cell_far (p := ⟨gb233, _, none⟩) NB232_233.out _).trans (((cell_far (p := ⟨gb233, _, none⟩) NB232_233.out _).trans (hHeld.2.2))))))))⟩ (fun hHeld => ?_)
   clear hK K
   refine done_ (done_of HT_.out (by kernel_rfl)) ?_
   try go_wp2
   refine bodyPost_ret (results_cell_row rfl _ _ gb233 30 #[.int .i64 t252, .bool t253, .int .u64 t254, .int .i64 t255] (0, 0) _ rfl (by refine kb_ ?_; refine bp_ #[.int .i64 t252, .bool t253, .int .u64 t254, .int .i64 0] 3 ?_; refine bp_ #[.int .i64 t252, .bool t253, .int .u64 0, .int .i64 0] 2 ?_; refine bp_ #[.int .i64 t252, .bool false, .int .u64 0, .int .i64 0] 1 ?_; refine bp_ #[.int .i64 0, .bool false, .int .u64 0, .int .i64 0] 0 ?_; exact BK233.out) Tryd.underlying30 rfl (by kernel_rfl)) rfl ?_
   exact ⟨rf_, bw_ HB.out⟩

end Go.Proofs.YtkemnoejpbknhaaDoor.PA
