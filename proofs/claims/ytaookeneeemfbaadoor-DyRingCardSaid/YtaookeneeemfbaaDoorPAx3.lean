-- Laid by this work's own program; Lean checks it.
import Derived.Test.YtaookeneeemfbaaDoorPAx0
import Derived.Test.YtaookeneeemfbaaDoorPAx1
import Derived.Test.YtaookeneeemfbaaDoorPAx2
namespace Go.Proofs.YtaookeneeemfbaaDoor.PA
open Go.RowKit Go.Proofs.YtaookeneeemfbaaDoorW.PrintWords Go.Proofs.YtaookeneeemfbaaDoorW.PrintLast Go.Proofs.YtaookeneeemfbaaDoorW.PrintMore
attribute [local go_sem] max2_int min2_int max_two min_two max_three min_three max_four min_four   -- for this text's walks alone
set_option linter.unusedVariables false
set_option linter.unusedSimpArgs false

attribute [local go_sem ↓ high] isSome_set_
/-! ### nat_Shr: function 42 -/
set_option maxHeartbeats 8000000 in
set_option maxRecDepth 100000 in
theorem nat_Shr.calls (k : Nat) (A0 : Option Addr) (c0 : Nat) (l0 : List Int) (a1 : Int) (r : List Int) (w : World) (hr0 : Kd.C (Kd.int .u32) w A0 l0.length l0) (hc0 : l0.length ≤ c0) (h : nat_Shr.f k l0 a1 = some r) :
  Calls Tryd.prog 42 #[.slice A0 l0.length c0, .int .i64 a1] w fun e w' => ∃ v0_ : Value, e = .returned (v0_) ∧ Kd.R (Kd.int .u32) 51 w' w.heap.size (fun _ => True) v0_ r ∧ Below w.heap.size w w' := by
 have HR0 := Aside0.mk hr0
 have HC0 := Aside0.mk hc0
 clear hr0 hc0
 have HB := Aside0.mk (Below.refl w.heap.size w)
 have H : ((nat_cut.f k l0).bind fun t130 => (if a1 < 1 then ((slices_Clone_uint32_uint32.f t130).bind fun t133 => (some t133)) else (if a1 ≥ (wrap64 (32 * (t130.length : Int))) then (some ([] : List Int)) else (if 0 ≤ (wrap64 ((t130.length : Int) - (wrap64 (Int.tdiv a1 32)))) then (if (wrap64 ((t130.length : Int) - (wrap64 (Int.tdiv a1 32))) : Int).toNat ≤ 70368744177664 then ((some (List.replicate (wrap64 ((t130.length : Int) - (wrap64 (Int.tdiv a1 32))) : Int).toNat 0 : List Int)).bind fun y136 => (nat_Shr.l0 k t130 (wrap64 (Int.tdiv a1 32)) (Int.tmod a1 32) y136 (y136.length : Int) 0)) else (none)) else (none))))) = some r := h
 clear h
 replace H := Option.bind_eq_some_iff.mp H
 obtain ⟨t130, A30, H⟩ := H
 (try dsimp only at H)
 have A3 := Aside0.mk A30
 clear A30
 by_cases c4 : a1 < 1
 ·rw [if_pos c4] at H
  have c4b0 : decide (a1 < 1) = true := decide_eq_true c4
  clear c4
  replace H := Option.bind_eq_some_iff.mp H
  obtain ⟨t133, A50, H⟩ := H
  (try dsimp only at H)
  have A5 := Aside0.mk A50
  clear A50
  obtain rfl := Option.some.inj H
  go_enter Tryd.func42, Tryd.ntmps42
  go_wp2_with (first | ((with_reducible refine gate_callee (f := 67) rfl ?_); refine gl_ (some 11) Tryd.func67 #[.slice A0 l0.length c0] ?_; (with_reducible refine (nat_cut.calls k (fun k_ => k_ < w.heap.size) _ _ l0 t130 _ ?side1 A3.out).mono ?_); (case side1 => exact Kd.V_mk HC0.out (Kd.F_below (Kd.C_F (Kd.heap_int .u32) HR0.out) (bw_ HB.out))); rintro e w6 ⟨v131, rfl, ho0, hb⟩; refine ⟨_, rfl, ?_⟩; have HO132 := Aside0.mk (Kd.V_lower (Kd.V_mono (ok' := fun k_ => True) ho0 (fun k_ hk_ => trivial)) (below_size (bw_ HB.out))); replace HB := bq_ HB hb; (try clear hb); (try clear hb2); (try clear hk); (try clear hi); (try clear ho0); obtain ⟨Ao7, co7, eo7⟩ := Kd.V_slice HO132.out; subst eo7) | ((with_reducible refine gate_callee (f := 68) rfl ?_); refine gl_ (some 16) Tryd.func68 #[.slice Ao7 t130.length co7] ?_; (with_reducible refine (slices_Clone_uint32_uint32.calls _ _ t130 t133 _ ?side1 ?side2 A5.out).mono ?_); (case side1 => exact kc_ (Kd.V_reads' HO132.out).2.2); (case side2 => exact (Kd.V_reads' HO132.out).2.1); rintro e w8 ⟨v134, rfl, ho0, hb⟩; refine ⟨_, rfl, ?_⟩; have n0_ := Aside0.mk (Kd.V_elder' (by (with_reducible repeat (first | apply Kd.V_alloc | apply Kd.V_drewN | apply Kd.V_drew)); exact HO132.out) (Kd.R_base ho0) hb); have n1_ := Aside0.mk (Kd.R_lower ho0 (below_size (bw_ HB.out))); have n2_ := bq_ HB hb; clear HO132; clear HB; have HO132 := n0_; have HO135 := n1_; have HB := n2_; clear n0_ n1_ n2_; (try clear hb); (try clear hb2); (try clear hk); (try clear hi); (try clear ho0)))
  go_ret
  exact ⟨_, rf_, by (with_reducible repeat (first | apply Kd.R_alloc | apply Kd.R_drewN | apply Kd.R_drew)); exact HO135.out, bw_ HB.out⟩
 ·rw [if_neg c4] at H
  have c4b0 : decide (a1 < 1) = false := decide_eq_false c4
  clear c4
  by_cases c9 : a1 ≥ (wrap64 (32 * (t130.length : Int)))
  ·rw [if_pos c9] at H
   have c9b0 : decide ((wrap64 (32 * (t130.length : Int))) ≤ a1) = true := decide_eq_true c9
   clear c9
   obtain rfl := Option.some.inj H
   go_enter Tryd.func42, Tryd.ntmps42
   go_wp2_with (first | ((with_reducible refine gate_callee (f := 67) rfl ?_); refine gl_ (some 11) Tryd.func67 #[.slice A0 l0.length c0] ?_; (with_reducible refine (nat_cut.calls k (fun k_ => k_ < w.heap.size) _ _ l0 t130 _ ?side1 A3.out).mono ?_); (case side1 => exact Kd.V_mk HC0.out (Kd.F_below (Kd.C_F (Kd.heap_int .u32) HR0.out) (bw_ HB.out))); rintro e w10 ⟨v131, rfl, ho0, hb⟩; refine ⟨_, rfl, ?_⟩; have HO132 := Aside0.mk (Kd.V_lower (Kd.V_mono (ok' := fun k_ => True) ho0 (fun k_ hk_ => trivial)) (below_size (bw_ HB.out))); replace HB := bq_ HB hb; (try clear hb); (try clear hb2); (try clear hk); (try clear hi); (try clear ho0); obtain ⟨Ao11, co11, eo11⟩ := Kd.V_slice HO132.out; subst eo11))
   go_ret
   exact ⟨_, rf_, by first | exact Kd.R_nil _ _ _ _ _ | exact Kd.N_nil _ _ _ _ _ | exact Kd.V_nil _ _ _ _ _ | exact Kd.Q_nil _ _ _ _ _ | exact Kd.S_nil _ _ _ _ _, bw_ HB.out⟩
  ·rw [if_neg c9] at H
   have c9b0 : decide ((wrap64 (32 * (t130.length : Int))) ≤ a1) = false := decide_eq_false c9
   clear c9
   obtain ⟨ji12, hji12⟩ : ∃ j_ : Int, (wrap64 ((t130.length : Int) - (wrap64 (Int.tdiv a1 32)))) = j_ := ⟨_, rfl⟩
   (first | rw [hji12] at H | simp only [hji12] at H)
   (try rw [hji12] at A3)
   have hji12w : (IntKind.i64.wrap ((t130.length : Int) - (wrap64 (Int.tdiv a1 32)))) = ji12 := (i64_w _).trans hji12
   by_cases c13 : 0 ≤ (ji12)
   ·rw [if_pos c13] at H
    have c13b0 := eq_true c13
    have c13b1 : decide (0 ≤ (ji12)) = true := decide_eq_true c13
    clear c13
    by_cases c14 : (ji12 : Int).toNat ≤ 70368744177664
    ·rw [if_pos c14] at H
     have c14b0 := eq_true c14
     have c14b1 : decide ((ji12 : Int).toNat ≤ 70368744177664) = true := decide_eq_true c14
     clear c14
     obtain ⟨y136, hy136⟩ : ∃ y_ : List Int, y_ = (List.replicate (ji12 : Int).toNat 0) := ⟨_, rfl⟩
     replace H : (nat_Shr.l0 k t130 (wrap64 (Int.tdiv a1 32)) (Int.tmod a1 32) y136 (y136.length : Int) 0) = some r := by first | (rw [hy136]; with_reducible exact H) | (have H2_ := (Option.bind_some _ _).symm.trans H; rw [hy136]; with_reducible exact H2_) | (have H2_ := (Option.bind_some _ _).symm.trans H; with_reducible exact H2_) | with_reducible exact H | (rw [hy136]; exact H) | exact H
     have Ny136 := Aside0.mk hy136
     clear hy136
     have H' := Aside0.mk H
     clear H
     go_enter Tryd.func42, Tryd.ntmps42
     go_wp2_with (first | ((with_reducible refine gate_callee (f := 67) rfl ?_); refine gl_ (some 11) Tryd.func67 #[.slice A0 l0.length c0] ?_; (with_reducible refine (nat_cut.calls k (fun k_ => k_ < w.heap.size) _ _ l0 t130 _ ?side1 A3.out).mono ?_); (case side1 => exact Kd.V_mk HC0.out (Kd.F_below (Kd.C_F (Kd.heap_int .u32) HR0.out) (bw_ HB.out))); rintro e w15 ⟨v131, rfl, ho0, hb⟩; refine ⟨_, rfl, ?_⟩; have HO132 := Aside0.mk (Kd.V_lower (Kd.V_mono (ok' := fun k_ => True) ho0 (fun k_ hk_ => trivial)) (below_size (bw_ HB.out))); replace HB := bq_ HB hb; (try clear hb); (try clear hb2); (try clear hk); (try clear hi); (try clear ho0); obtain ⟨Ao16, co16, eo16⟩ := Kd.V_slice HO132.out; subst eo16) | ((with_reducible refine gate_dst (N := 31) rfl ?_); refine Kd.R_make (Kd.int .u32) _ 51 rfl (N := 31) rfl 22 _ _ rfl ji12 rfl rfl Tryd.underlying22 (.int .u32 0) 4 info51 rfl (by decide) (by omega) 0 (ok := fun _ => True) (okp := fun _ => True) rfl (fun _ hk => hk) trivial (of_decide_eq_true (by first | (with_reducible assumption) | assumption)) (Nat.le_trans (Nat.mul_le_mul_right _ (of_decide_eq_true (by first | (with_reducible assumption) | assumption) : ji12.toNat ≤ 70368744177664)) (by omega)) (Below.refl _ _) (Nat.le_refl _) ?_; intro v137 w17 ho18 hb hg_ hnew_; clear hg_ hnew_; (first | rw [← Ny136.out] at ho18 | (simp only [Int.reduceToNat] at ho18; rw [← Ny136.out] at ho18)); have n0_ := Aside0.mk (Kd.V_elder' (by (with_reducible repeat (first | apply Kd.V_alloc | apply Kd.V_drewN | apply Kd.V_drew)); exact HO132.out) (Kd.R_base ho18) hb); have n1_ := Aside0.mk (Kd.R_lower ho18 (below_size (bw_ HB.out))); have n2_ := bq_ HB hb; clear HO132; clear HB; have HO132 := n0_; have HO138 := n1_; have HB := n2_; clear n0_ n1_ n2_; clear hb ho18; obtain ⟨Ao19, co19, eo19⟩ := Kd.R_slice HO138.out; subst eo19))
     go_loopg [34] k (fun kq v34 w' => ∃ (x7_1 : List Int) (x34_1 : Int), v34 = .int .i64 x34_1 ∧ Aside0 (nat_Shr.l0 kq t130 (wrap64 (Int.tdiv a1 32)) (Int.tmod a1 32) x7_1 (y136.length : Int) x34_1 = some r) ∧ Aside0 (kq ≤ k) ∧ Aside0 (Kd.V (Kd.int .u32) 51 w' w.heap.size (fun k_ => some k_ ≠ ((.slice Ao19 y136.length co19) : Value).ownBlock) (.slice Ao16 t130.length co16) t130) ∧ Aside0 (Kd.R (Kd.int .u32) 51 w' w.heap.size (fun _ => True) (.slice Ao19 y136.length co19) x7_1) ∧ Aside0 (Below w.heap.size w w'))
     case atStart => exact ⟨(y136), (0), (by first | rfl | (simp; done) | (simp [*]; done)), H', ⟨Nat.le_refl _⟩, ⟨by (with_reducible repeat (first | apply Kd.V_alloc | apply Kd.V_drewN | apply Kd.V_drew)); exact Kd.V_mono HO132.out (fun _ hk => hk.2)⟩, ⟨by (with_reducible repeat (first | apply Kd.R_alloc | apply Kd.R_drewN | apply Kd.R_drew)); exact HO138.out⟩, ⟨bw_ HB.out⟩⟩
     case round =>
      clear H'
      try clear c1
      try clear p2
      try clear c4
      try clear c4b0
      try clear c6
      try clear p6
      try clear c9
      try clear c9b0
      try clear c13
      try clear c13b0
      try clear c13b1
      try clear c14
      try clear c14b0
      try clear c14b1
      obtain ⟨x7_1, x34_1, rfl, HA, HK1, HO_0, HO_7, HB⟩ := hrel
      have hl7_1 := (Kd.R_reads' HO_7.out).1
      rw [hl7_1] at HO_7
      (try simp only [hl7_1])
      (try simp only [hl7_1] at HO_0)
      cases gk with
      | zero => exact absurd HA.out (by simp [nat_Shr.l0])
      | succ k1 =>
       have H := HA.out
       clear HA
       simp only [nat_Shr.l0] at H
       by_cases c20 : x34_1 < (y136.length : Int)
       ·rw [if_pos c20] at H
        have c20b0 : decide (x34_1 < (y136.length : Int)) = true := decide_eq_true c20
        (try (have c20b0r := c20b0; rw [hl7_1] at c20b0r))
        clear c20
        obtain ⟨ji21, hji21⟩ : ∃ j_ : Int, (wrap64 (x34_1 + (wrap64 (Int.tdiv a1 32)))) = j_ := ⟨_, rfl⟩
        (first | rw [hji21] at H | simp only [hji21] at H)
        have hji21w : (IntKind.i64.wrap (x34_1 + (wrap64 (Int.tdiv a1 32)))) = ji21 := (i64_w _).trans hji21
        by_cases c22 : 0 ≤ (ji21)
        ·rw [if_pos c22] at H
         have c22b0 : decide (0 ≤ (ji21)) = true := decide_eq_true c22
         (try (have c22b0r := c22b0; rw [hl7_1] at c22b0r))
         clear c22
         by_cases c23 : (ji21) < (t130.length : Int)
         ·rw [if_pos c23] at H
          have c23b0 : decide ((ji21) < (t130.length : Int)) = true := decide_eq_true c23
          (try (have c23b0r := c23b0; rw [hl7_1] at c23b0r))
          clear c23
          by_cases c24 : (wrap64 ((ji21) + 1)) < (t130.length : Int)
          ·rw [if_pos c24] at H
           have c24b0 : decide ((wrap64 ((ji21) + 1)) < (t130.length : Int)) = true := decide_eq_true c24
           (try (have c24b0r := c24b0; rw [hl7_1] at c24b0r))
           clear c24
           obtain ⟨ji25, hji25⟩ : ∃ j_ : Int, (wrap64 ((ji21) + 1)) = j_ := ⟨_, rfl⟩
           (first | rw [hji25] at H | simp only [hji25] at H)
           (try rw [hji25] at c24b0)
           have hji25w : (IntKind.i64.wrap ((ji21) + 1)) = ji25 := (i64_w _).trans hji25
           by_cases c26 : 0 ≤ (ji25)
           ·rw [if_pos c26] at H
            have c26b0 : decide (0 ≤ (ji25)) = true := decide_eq_true c26
            (try (have c26b0r := c26b0; rw [hl7_1] at c26b0r))
            clear c26
            obtain ⟨ji27, hji27⟩ : ∃ j_ : Int, (Int.tmod a1 32) = j_ := ⟨_, rfl⟩
            (first | rw [hji27] at H | simp only [hji27] at H)
            by_cases c28 : 0 ≤ (ji27)
            ·rw [if_pos c28] at H
             have c28b0 := eq_true c28
             have c28b1 : decide (0 ≤ (ji27)) = true := decide_eq_true c28
             (try (have c28b1r := c28b1; rw [hl7_1] at c28b1r))
             clear c28
             obtain ⟨ji29, hji29⟩ : ∃ j_ : Int, (shr .u64 (Go.bits .or .u64 (IntKind.u64.wrap (rd t130 (ji21))) (IntKind.u64.wrap ((IntKind.u64.wrap (rd t130 (ji25))) * 4294967296))) (ji27)) = j_ := ⟨_, rfl⟩
             (first | rw [hji29] at H | simp only [hji29] at H)
             have hji29_ : ((Go.bits .or .u64 (IntKind.u64.wrap (rd t130 (ji21))) (IntKind.u64.wrap ((IntKind.u64.wrap (rd t130 (ji25))) * 4294967296))) / 2 ^ min (ji27).toNat 64) = ji29 := hji29
             have hji29z : (ji27) ≤ 64 → ((Go.bits .or .u64 (IntKind.u64.wrap (rd t130 (ji21))) (IntKind.u64.wrap ((IntKind.u64.wrap (rd t130 (ji25))) * 4294967296))) / 2 ^ (ji27).toNat) = ji29 := shr_small hji29
             by_cases c30 : 0 ≤ x34_1
             ·rw [if_pos c30] at H
              have c30b0 : decide (0 ≤ x34_1) = true := decide_eq_true c30
              (try (have c30b0r := c30b0; rw [hl7_1] at c30b0r))
              clear c30
              by_cases c31 : x34_1 < (x7_1.length : Int)
              ·rw [if_pos c31] at H
               have c31b0 : decide (x34_1 < (x7_1.length : Int)) = true := decide_eq_true c31
               (try (have c31b0r := c31b0; rw [hl7_1] at c31b0r))
               clear c31
               obtain ⟨y141, hy141⟩ : ∃ y_ : List Int, y_ = (x7_1.set (x34_1 : Int).toNat ((ji29) % 4294967296)) := ⟨_, rfl⟩
               replace H : (nat_Shr.l0 k1 t130 (wrap64 (Int.tdiv a1 32)) (ji27) y141 (y136.length : Int) (wrap64 (x34_1 + 1))) = some r := by first | (rw [hy141]; with_reducible exact H) | (have H2_ := (Option.bind_some _ _).symm.trans H; rw [hy141]; with_reducible exact H2_) | (have H2_ := (Option.bind_some _ _).symm.trans H; with_reducible exact H2_) | with_reducible exact H | (rw [hy141]; exact H) | exact H
               have Ny141 := Aside0.mk hy141
               clear hy141
               have H' := Aside0.mk H
               clear H
               have p139 : 0 ≤ ((ji21) : Int) := of_decide_eq_true (by first | (with_reducible assumption) | assumption)
               have q139 : (ji21) < (t130.length : Int) := of_decide_eq_true (by first | (with_reducible assumption) | assumption)
               obtain ⟨ad139, e139, hx139_0⟩ := Kd.at_int (Kd.V_reads' HO_0.out).2.2 (ji21) p139 q139
               cases e139
               replace p139 := eq_true p139
               replace q139 := eq_true q139
               have p140 : 0 ≤ ((ji25) : Int) := of_decide_eq_true (by first | (with_reducible assumption) | assumption)
               have q140 : (ji25) < (t130.length : Int) := of_decide_eq_true (by first | (with_reducible assumption) | assumption)
               obtain ⟨ad140, e140, hx140_0⟩ := Kd.at_int (Kd.V_reads' HO_0.out).2.2 (ji25) p140 q140
               obtain rfl : ad139 = ad140 := (by injection e140)
               replace p140 := eq_true p140
               replace q140 := eq_true q140
               have p32 : 0 ≤ (x34_1 : Int) := of_decide_eq_true (by first | (with_reducible assumption) | assumption)
               have q32 : (x34_1 : Int) < ((x7_1.length : Int) : Int) := of_decide_eq_true (by first | (with_reducible assumption) | assumption)
               obtain ⟨go32, co32, eo32, gb32, gl32, cl32, HG32⟩ := Kd.R_form HO_7.out (by omega)
               (first | cases eo32 | (injection eo32 with ea_ en_ ec_; (first | subst ea_ | (injection ea_ with ea_; subst ea_)); subst ec_; clear en_))
               have GB32 := Aside0.mk gb32
               have GG32 := Aside0.mk HG32
               clear gb32 gl32 HG32
               obtain ⟨hx32_0, hf32_0⟩ := Kd.R_celln 0 HO_7.out (x34_1 : Int) p32 q32
               replace p32 := eq_true p32
               replace q32 := eq_true q32
               have HP33 := Kd.R_putg HO_7.out (x34_1 : Int) ((ji29) % 4294967296)
               go_wp2_with (first | ((with_reducible refine gate_store (t := 51) (p := 68) rfl ?_); refine store_event (t := 51) (p := 68) (v := ?vo_w34) (w1 := (wr.setCell ⟨go32, (x34_1 : Int).toNat, none⟩ (.int .u32 ((ji29) % 4294967296)))) ?hg ?ho ?hn ?hr ?_; (case ho => rfl); (case hg => rfl); (case hn => rfl); (case hr => first | (go_simp; done) | (go_simp; rfl)); intro w34 hw; have hg : wr.grownBy w34 (some go32) := (by rw [hw]; exact HP33.2); have hp_ : Kd.R (Kd.int .u32) 51 w34 w.heap.size (fun _ => True) (.slice (some ⟨go32, 0, none⟩) x7_1.length co19) y141 := (by rw [hw, Ny141.out]; exact HP33.1); clear HP33; have n0_ := Aside0.mk (Kd.V_afterv (v := (.slice (some ⟨go32, 0, none⟩) x7_1.length co19)) (v1 := (.slice (some ⟨go32, 0, none⟩) x7_1.length co19)) (ok := (fun _ => True)) (by (with_reducible repeat (first | apply Kd.V_alloc | apply Kd.V_drewN | apply Kd.V_drew)); exact Kd.V_mono HO_0.out (fun _ hk => by first | exact ⟨trivial, hk⟩ | (simp only [ob_map] at hk ⊢; exact ⟨trivial, hk⟩))) hg (.inl rfl)); have n1_ := Aside0.mk (hp_); have n2_ := Aside0.mk ((by rw [hw]; exact below_set (HB.out) GB32.out : Below w.heap.size w w34)); clear HO_0; clear HO_7; clear HB; have HO_0 := n0_; have HO_7 := n1_; have HB := n2_; clear n0_ n1_ n2_; clear hg hw hp_))
               (try simp only [← hl7_1])
               (try subst hji27)
               go_roundg k1
               case measure => have := HK1.out; omega
               case rel => exact ⟨(y141), (wrap64 (x34_1 + 1)), (by first | rfl | (simp; done) | (simp [*]; done)), H', ⟨by have := HK1.out; omega⟩, ⟨by (try simp only [hl7_1]); (with_reducible repeat (first | apply Kd.V_alloc | apply Kd.V_drewN | apply Kd.V_drew)); exact Kd.V_mono HO_0.out (fun _ hk => hk.2)⟩, ⟨by (try simp only [hl7_1]); (with_reducible repeat (first | apply Kd.R_alloc | apply Kd.R_drewN | apply Kd.R_drew)); exact HO_7.out⟩, ⟨bw_ HB.out⟩⟩
              ·rw [if_neg c31] at H
               exact absurd H (by simp)
             ·rw [if_neg c30] at H
              exact absurd H (by simp)
            ·rw [if_neg c28] at H
             exact absurd H (by simp)
           ·rw [if_neg c26] at H
            exact absurd H (by simp)
          ·rw [if_neg c24] at H
           have c24b0 : decide ((wrap64 ((ji21) + 1)) < (t130.length : Int)) = false := decide_eq_false c24
           (try (have c24b0r := c24b0; rw [hl7_1] at c24b0r))
           clear c24
           obtain ⟨ji35, hji35⟩ : ∃ j_ : Int, (Int.tmod a1 32) = j_ := ⟨_, rfl⟩
           (first | rw [hji35] at H | simp only [hji35] at H)
           by_cases c36 : 0 ≤ (ji35)
           ·rw [if_pos c36] at H
            have c36b0 := eq_true c36
            have c36b1 : decide (0 ≤ (ji35)) = true := decide_eq_true c36
            (try (have c36b1r := c36b1; rw [hl7_1] at c36b1r))
            clear c36
            obtain ⟨ji37, hji37⟩ : ∃ j_ : Int, (shr .u64 (IntKind.u64.wrap (rd t130 (ji21))) (ji35)) = j_ := ⟨_, rfl⟩
            (first | rw [hji37] at H | simp only [hji37] at H)
            have hji37_ : ((IntKind.u64.wrap (rd t130 (ji21))) / 2 ^ min (ji35).toNat 64) = ji37 := hji37
            have hji37z : (ji35) ≤ 64 → ((IntKind.u64.wrap (rd t130 (ji21))) / 2 ^ (ji35).toNat) = ji37 := shr_small hji37
            by_cases c38 : 0 ≤ x34_1
            ·rw [if_pos c38] at H
             have c38b0 : decide (0 ≤ x34_1) = true := decide_eq_true c38
             (try (have c38b0r := c38b0; rw [hl7_1] at c38b0r))
             clear c38
             by_cases c39 : x34_1 < (x7_1.length : Int)
             ·rw [if_pos c39] at H
              have c39b0 : decide (x34_1 < (x7_1.length : Int)) = true := decide_eq_true c39
              (try (have c39b0r := c39b0; rw [hl7_1] at c39b0r))
              clear c39
              obtain ⟨y142, hy142⟩ : ∃ y_ : List Int, y_ = (x7_1.set (x34_1 : Int).toNat ((ji37) % 4294967296)) := ⟨_, rfl⟩
              replace H : (nat_Shr.l0 k1 t130 (wrap64 (Int.tdiv a1 32)) (ji35) y142 (y136.length : Int) (wrap64 (x34_1 + 1))) = some r := by first | (rw [hy142]; with_reducible exact H) | (have H2_ := (Option.bind_some _ _).symm.trans H; rw [hy142]; with_reducible exact H2_) | (have H2_ := (Option.bind_some _ _).symm.trans H; with_reducible exact H2_) | with_reducible exact H | (rw [hy142]; exact H) | exact H
              have Ny142 := Aside0.mk hy142
              clear hy142
              have H' := Aside0.mk H
              clear H
              have p139 : 0 ≤ ((ji21) : Int) := of_decide_eq_true (by first | (with_reducible assumption) | assumption)
              have q139 : (ji21) < (t130.length : Int) := of_decide_eq_true (by first | (with_reducible assumption) | assumption)
              obtain ⟨ad139, e139, hx139_0⟩ := Kd.at_int (Kd.V_reads' HO_0.out).2.2 (ji21) p139 q139
              cases e139
              replace p139 := eq_true p139
              replace q139 := eq_true q139
              have p40 : 0 ≤ (x34_1 : Int) := of_decide_eq_true (by first | (with_reducible assumption) | assumption)
              have q40 : (x34_1 : Int) < ((x7_1.length : Int) : Int) := of_decide_eq_true (by first | (with_reducible assumption) | assumption)
              obtain ⟨go40, co40, eo40, gb40, gl40, cl40, HG40⟩ := Kd.R_form HO_7.out (by omega)
              (first | cases eo40 | (injection eo40 with ea_ en_ ec_; (first | subst ea_ | (injection ea_ with ea_; subst ea_)); subst ec_; clear en_))
              have GB40 := Aside0.mk gb40
              have GG40 := Aside0.mk HG40
              clear gb40 gl40 HG40
              obtain ⟨hx40_0, hf40_0⟩ := Kd.R_celln 0 HO_7.out (x34_1 : Int) p40 q40
              replace p40 := eq_true p40
              replace q40 := eq_true q40
              have HP41 := Kd.R_putg HO_7.out (x34_1 : Int) ((ji37) % 4294967296)
              go_wp2_with (first | ((with_reducible refine gate_store (t := 51) (p := 68) rfl ?_); refine store_event (t := 51) (p := 68) (v := ?vo_w42) (w1 := (wr.setCell ⟨go40, (x34_1 : Int).toNat, none⟩ (.int .u32 ((ji37) % 4294967296)))) ?hg ?ho ?hn ?hr ?_; (case ho => rfl); (case hg => rfl); (case hn => rfl); (case hr => first | (go_simp; done) | (go_simp; rfl)); intro w42 hw; have hg : wr.grownBy w42 (some go40) := (by rw [hw]; exact HP41.2); have hp_ : Kd.R (Kd.int .u32) 51 w42 w.heap.size (fun _ => True) (.slice (some ⟨go40, 0, none⟩) x7_1.length co19) y142 := (by rw [hw, Ny142.out]; exact HP41.1); clear HP41; have n0_ := Aside0.mk (Kd.V_afterv (v := (.slice (some ⟨go40, 0, none⟩) x7_1.length co19)) (v1 := (.slice (some ⟨go40, 0, none⟩) x7_1.length co19)) (ok := (fun _ => True)) (by (with_reducible repeat (first | apply Kd.V_alloc | apply Kd.V_drewN | apply Kd.V_drew)); exact Kd.V_mono HO_0.out (fun _ hk => by first | exact ⟨trivial, hk⟩ | (simp only [ob_map] at hk ⊢; exact ⟨trivial, hk⟩))) hg (.inl rfl)); have n1_ := Aside0.mk (hp_); have n2_ := Aside0.mk ((by rw [hw]; exact below_set (HB.out) GB40.out : Below w.heap.size w w42)); clear HO_0; clear HO_7; clear HB; have HO_0 := n0_; have HO_7 := n1_; have HB := n2_; clear n0_ n1_ n2_; clear hg hw hp_))
              (try simp only [← hl7_1])
              (try subst hji35)
              go_roundg k1
              case measure => have := HK1.out; omega
              case rel => exact ⟨(y142), (wrap64 (x34_1 + 1)), (by first | rfl | (simp; done) | (simp [*]; done)), H', ⟨by have := HK1.out; omega⟩, ⟨by (try simp only [hl7_1]); (with_reducible repeat (first | apply Kd.V_alloc | apply Kd.V_drewN | apply Kd.V_drew)); exact Kd.V_mono HO_0.out (fun _ hk => hk.2)⟩, ⟨by (try simp only [hl7_1]); (with_reducible repeat (first | apply Kd.R_alloc | apply Kd.R_drewN | apply Kd.R_drew)); exact HO_7.out⟩, ⟨bw_ HB.out⟩⟩
             ·rw [if_neg c39] at H
              exact absurd H (by simp)
            ·rw [if_neg c38] at H
             exact absurd H (by simp)
           ·rw [if_neg c36] at H
            exact absurd H (by simp)
         ·rw [if_neg c23] at H
          exact absurd H (by simp)
        ·rw [if_neg c22] at H
         exact absurd H (by simp)
       ·rw [if_neg c20] at H
        have c20b0 : decide (x34_1 < (y136.length : Int)) = false := decide_eq_false c20
        (try (have c20b0r := c20b0; rw [hl7_1] at c20b0r))
        clear c20
        replace H := Option.bind_eq_some_iff.mp H
        obtain ⟨t143, A430, H⟩ := H
        (try dsimp only at H)
        have A43 := Aside0.mk A430
        clear A430
        obtain rfl := Option.some.inj H
        go_wp2_with (first | ((with_reducible refine gate_callee (f := 67) rfl ?_); refine gl_ (some 71) Tryd.func67 #[.slice Ao19 x7_1.length co19] ?_; (with_reducible refine (nat_cut_own.calls k1 (fun k_ => some k_ = (.slice Ao19 x7_1.length co19 : Value).ownBlock) (.slice Ao19 x7_1.length co19) x7_1 t143 w _ ?side1 ?side2 A43.out).mono ?_); (case side1 => repeat (first | (with_reducible first | exact HB.out | apply below_alloc | apply pw_below_drewN | apply below_drew1) | exact HB.out)); (case side2 => exact Kd.R_tight rfl HO_7.out); rintro e w44 ⟨v144, rfl, ho0, hb, hkp⟩; refine ⟨_, rfl, ?_⟩; have HO145 := Aside0.mk (Kd.R_mono (ok' := fun k_ => True) ho0 (fun k_ hk_ => trivial)); replace HO_0 := Aside0.mk (Kd.V_mono (ok' := fun k_ => some k_ ≠ (v144 : Value).ownBlock) (Kd.V_keptB (HO_0.out) hkp (fun k_ hk_ hs_ => (hk_) hs_)) (fun k_ hk_ => fun e_ => Or.elim (ho0.1 k_ e_.symm) (fun hs_ => hk_.2.1 hs_) (fun hn_ => Nat.not_le.2 hk_.2.2 hn_))); replace HB := Aside0.mk (hb); clear HO_7; (try clear hb); (try clear hkp); (try clear ho0)))
        go_ret
        exact ⟨_, by first | rfl | (simp [errW_none, errW_some] <;> rfl) | (simp only [← hji12]; first | rfl | (simp [errW_none, errW_some] <;> rfl)) | (simp [*, errW_none, errW_some] <;> rfl), by (with_reducible repeat (first | apply Kd.R_alloc | apply Kd.R_drewN | apply Kd.R_drew)); exact HO145.out, bw_ HB.out⟩
    ·rw [if_neg c14] at H
     exact absurd H (by simp)
   ·rw [if_neg c13] at H
    exact absurd H (by simp)

/-! ### dy_Make: function 10 -/
theorem dy_Make.tab6 : rtab .any (opsOf Tryd.f10 6) = dy_Make.T6 := by kernel_rfl
theorem dy_Make.bits6 : waitsOk dy_Make.T6.2 dy_Make.B6 = true := by kernel_rfl
set_option maxHeartbeats 8000000 in
set_option maxRecDepth 100000 in
theorem dy_Make.calls (k : Nat) (a0_0 : Bool) (A0_1 : Option Addr) (c0_1 : Nat) (l0_1 : List Int) (a1 : Int) (r1 : Bool) (r2 : List Int) (r3 : Int) (w : World) (hr0_1 : Kd.C (Kd.int .u32) w A0_1 l0_1.length l0_1) (hc0_1 : l0_1.length ≤ c0_1) (h : dy_Make.f k a0_0 l0_1 a1 = some (r1, r2, r3)) (htab_ : Kd.C (Kd.int .u8) w (some ⟨0, 0, none⟩) 32 tz32tab) :
  Calls Tryd.prog 10 #[.agg #[.bool a0_0, .slice A0_1 l0_1.length c0_1], .int .i64 a1] w fun e w' => ∃ v1_ : Value, e = .returned (.agg #[.bool r1, v1_, .int .i64 r3]) ∧ Kd.R (Kd.int .u32) 51 w' w.heap.size (fun _ => True) v1_ r2 ∧ Below w.heap.size w w' := by
 have HTAB := Aside0.mk htab_
 clear htab_
 have hu24 := Tryd.underlying24
 have hu27 := Tryd.underlying27
 have HR0_1 := Aside0.mk hr0_1
 have HC0_1 := Aside0.mk hc0_1
 clear hr0_1 hc0_1
 have HB := Aside0.mk (Below.refl w.heap.size w)
 have H : ((whole_Sign.f k a0_0 l0_1).bind fun t148 => (if t148 = 0 then (dy_Make.j0 k a1 true a0_0 l0_1) else ((dy_within.f a1).bind fun t149 => (dy_Make.j0 k a1 (!t149) a0_0 l0_1)))) = some (r1, r2, r3) := h
 clear h
 have HC3 := Aside0.mk H
 clear H
 go_enter Tryd.func10, Tryd.ntmps10
 go_upto_region 1 with (first | ((with_reducible refine gate_dst (N := 2) rfl ?_); refine bx_ 2 #[.bool a0_0, .slice A0_1 l0_1.length c0_1] 24 ?_; intro gb146 hg w4 hbox hb; have BK146 := Aside0.mk (hbox); have GW146 := ge_ hg HB; have GE146 := ge_ hg HB; replace HB := bq_ HB hb; clear hb hbox hg) | ((with_reducible refine gate_dst (N := 4) rfl ?_); refine bx_ 4 #[.bool false, .slice none 0 0, .int .i64 0] 27 ?_; intro gb147 hg w5 hbox hb; have BK147 := Aside0.mk (hbox); have GW147 := ge_ hg HB; have GE147 := ge_ hg HB; have NB146_147 := nb_ hg BK146; have NB147_146 := nc_ hg BK146; replace BK146 := kq_ BK146 hb; replace HB := bq_ HB hb; clear hb hbox hg))
 (try simp only [Act.put, List.setIfInBounds_toArray, List.set_cons_zero, List.set_cons_succ])
 go_cut [13] (fun v13 wc => ∃ (kq : Nat) (x13_2 : Bool), v13 = .bool x13_2 ∧ Aside0 (dy_Make.j0 kq a1 x13_2 a0_0 l0_1 = some (r1, r2, r3)) ∧ Aside0 (kq ≤ k) ∧ Aside0 (wc.heap[gb146]? = some (.cells #[.bool a0_0, (.slice A0_1 l0_1.length c0_1)] 24 (0, 0))) ∧ Aside0 (wc.heap[gb147]? = some (.cells #[.bool false, (.slice none 0 0), .int .i64 0] 27 (0, 0))) ∧ Aside0 (Below w.heap.size w wc))
 case first =>
  have H := HC3.out
  clear HC3
  replace H := Option.bind_eq_some_iff.mp H
  obtain ⟨t148, A60, H⟩ := H
  (try dsimp only at H)
  have A6 := Aside0.mk A60
  clear A60
  by_cases c7 : t148 = 0
  ·rw [if_pos c7] at H
   have c7b0 : (t148 == 0) = true := beq_iff_eq.mpr c7
   have c7b1 : (t148 != 0) = false := bne_eq_false_iff_eq.mpr c7
   clear c7
   (first | rw [c7b0] | (simp only [i64_w, i32_w]; rw [c7b0]) | skip)
   have H' := Aside0.mk H
   clear H
   have hnb8 := NB146_147.out
   have hnc8 := NB147_146.out
   obtain ⟨hcz9_0, hcz9_1, hfz9_0, hfz9_1⟩ := c2_ BK146
   go_wp2_with (first | ((with_reducible refine gate_callee (f := 38) rfl ?_); refine gl_ (some 7) Tryd.func38 #[.agg #[.bool a0_0, .slice A0_1 l0_1.length c0_1]] ?_; (with_reducible refine (whole_Sign.calls k a0_0 _ _ l0_1 t148 _ ?side1 ?side2 A6.out).mono ?_); (case side1 => exact kc_ (Kd.C_below HR0_1.out HB.out)); (case side2 => exact HC0_1.out); rintro e w10 ⟨rfl, hb⟩; refine ⟨_, rfl, ?_⟩; replace BK146 := kq_ BK146 hb; replace BK147 := kq_ BK147 hb; replace HB := bq_ HB hb; (try clear hb); (try clear hb2); (try clear hk); (try clear hi)))
   go_meet
   case rel => exact ⟨_, (true), (by first | rfl | (simp; done) | (simp [*]; done)), H', ⟨by first | omega | exact Nat.le_refl _⟩, ⟨kb_ BK146.out⟩, ⟨kb_ BK147.out⟩, ⟨bw_ HB.out⟩⟩
  ·rw [if_neg c7] at H
   have c7b0 : (t148 == 0) = false := beq_eq_false_iff_ne.mpr c7
   have c7b1 : (t148 != 0) = true := bne_iff_ne.mpr c7
   (first | rw [c7b0] | (simp only [i64_w, i32_w]; rw [c7b0]) | skip)
   replace H := Option.bind_eq_some_iff.mp H
   obtain ⟨t149, A110, H⟩ := H
   (try dsimp only at H)
   have A11 := Aside0.mk A110
   clear A110
   have H' := Aside0.mk H
   clear H
   have hnb12 := NB146_147.out
   have hnc12 := NB147_146.out
   obtain ⟨hcz13_0, hcz13_1, hfz13_0, hfz13_1⟩ := c2_ BK146
   go_wp2_with (first | ((with_reducible refine gate_callee (f := 38) rfl ?_); refine gl_ (some 7) Tryd.func38 #[.agg #[.bool a0_0, .slice A0_1 l0_1.length c0_1]] ?_; (with_reducible refine (whole_Sign.calls k a0_0 _ _ l0_1 t148 _ ?side1 ?side2 A6.out).mono ?_); (case side1 => exact kc_ (Kd.C_below HR0_1.out HB.out)); (case side2 => exact HC0_1.out); rintro e w14 ⟨rfl, hb⟩; refine ⟨_, rfl, ?_⟩; replace BK146 := kq_ BK146 hb; replace BK147 := kq_ BK147 hb; replace HB := bq_ HB hb; (try clear hb); (try clear hb2); (try clear hk); (try clear hi)) | (go_at_call 39; (with_reducible refine (dy_within.calls a1 t149 _ A11.out).mono ?_); rintro e w' ⟨rfl, ⟨nd, rfl⟩⟩))
   go_meet
   case rel => exact ⟨_, (!t149), (by first | rfl | (simp; done) | (simp [*]; done)), H', ⟨by first | omega | exact Nat.le_refl _⟩, ⟨kb_ BK146.out⟩, ⟨kb_ BK147.out⟩, ⟨bw_ HB.out⟩⟩
 case rest =>
  clear HC3
  try clear c1
  try clear p2
  try clear c3
  try clear c7
  try clear c7b0
  try clear c7b1
  try clear c8
  try clear c10
  try clear c12
  try clear hcz13_0 hcz13_1
  try clear hcz9_0 hcz9_1
  try clear hfz13_0 hfz13_1
  try clear hfz9_0 hfz9_1
  obtain ⟨kq, x13_2, rfl, HA, HJ2, BK146, BK147, HB⟩ := hcut
  cases kq with
  | zero => exact absurd HA.out (by simp [dy_Make.j0])
  | succ kj2 =>
   have H := HA.out
   clear HA
   simp only [dy_Make.j0] at H
   by_cases c15 : x13_2 = true
   ·subst c15
    have H1 : (some (false, ([] : List Int), 0)) = some (r1, r2, r3) := by rw [if_pos rfl] at H; exact H
    clear H
    have H := H1
    clear H1
    simp only [Option.some.injEq, Prod.mk.injEq] at H
    obtain ⟨rfl, rfl, rfl⟩ := H
    have hnb16 := NB147_146.out
    have hnc16 := NB146_147.out
    obtain ⟨hcz17_0, hcz17_1, hcz17_2, hfz17_0, hfz17_1, hfz17_2⟩ := c3_ BK147
    go_wp2
    refine bodyPost_ret (results_cell_row rfl _ _ gb147 27 #[.bool false, .slice none 0 0, .int .i64 0] (0, 0) _ rfl (by refine kb_ ?_; refine bp_ #[.bool false, .slice none 0 0, .int .i64 0] 2 ?_; refine bp_ #[.bool false, .slice none 0 0, .int .i64 0] 1 ?_; refine bp_ #[.bool false, .slice none 0 0, .int .i64 0] 0 ?_; exact BK147.out) Tryd.underlying27 rfl (by kernel_rfl)) rfl ?_
    exact ⟨_, rf_, by first | exact Kd.R_nil _ _ _ _ _ | exact Kd.N_nil _ _ _ _ _ | exact Kd.V_nil _ _ _ _ _ | exact Kd.Q_nil _ _ _ _ _ | exact Kd.S_nil _ _ _ _ _, bw_ HB.out⟩
   ·replace c15 := Bool.eq_false_iff.mpr c15
    subst c15
    have H1 : ((dy_trailing.f kj2 l0_1).bind fun t150 => ((dy_within.f (wrap64 (a1 + t150))).bind fun t151 => (if t151 = true then ((nat_Shr.f kj2 l0_1 t150).bind fun t152 => ((whole_Make.f kj2 a0_0 t152).bind fun bt155 => (some (bt155.1, bt155.2, wrap64 (a1 + t150))))) else (some (false, ([] : List Int), 0))))) = some (r1, r2, r3) := by rw [if_neg (show ¬ (false = true) by decide)] at H; exact H
    clear H
    have H := H1
    clear H1
    replace H := Option.bind_eq_some_iff.mp H
    obtain ⟨t150, A180, H⟩ := H
    (try dsimp only at H)
    have A18 := Aside0.mk A180
    clear A180
    replace H := Option.bind_eq_some_iff.mp H
    obtain ⟨t151, A190, H⟩ := H
    (try dsimp only at H)
    have A19 := Aside0.mk A190
    clear A190
    by_cases c20 : t151 = true
    ·subst c20
     have H1 : ((nat_Shr.f kj2 l0_1 t150).bind fun t152 => ((whole_Make.f kj2 a0_0 t152).bind fun bt155 => (some (bt155.1, bt155.2, wrap64 (a1 + t150))))) = some (r1, r2, r3) := by rw [if_pos rfl] at H; exact H
     clear H
     have H := H1
     clear H1
     replace H := Option.bind_eq_some_iff.mp H
     obtain ⟨t152, A210, H⟩ := H
     (try dsimp only at H)
     have A21 := Aside0.mk A210
     clear A210
     replace H := Option.bind_eq_some_iff.mp H
     obtain ⟨⟨t155, t156⟩, A220, H⟩ := H
     (try dsimp only at H)
     have A22 := Aside0.mk A220
     clear A220
     simp only [Option.some.injEq, Prod.mk.injEq] at H
     obtain ⟨rfl, rfl, rfl⟩ := H
     have hnb23 := NB146_147.out
     have hnc23 := NB147_146.out
     obtain ⟨hcz24_0, hcz24_1, hfz24_0, hfz24_1⟩ := c2_ BK146
     try go_wp2_with (first | ((with_reducible refine gate_callee (f := 40) rfl ?_); refine gl_ (some 17) Tryd.func40 #[.slice A0_1 l0_1.length c0_1] ?_; (with_reducible refine (dy_trailing.calls kj2 _ _ l0_1 t150 _ ?side1 ?side2 A18.out ?sidet).mono ?_); (case sidet => exact Kd.C_below HTAB.out (bw_ HB.out)); (case side1 => exact kc_ (Kd.C_below HR0_1.out HB.out)); (case side2 => exact HC0_1.out); rintro e w' ⟨rfl, ⟨nd, rfl⟩⟩; refine ⟨_, rfl, ?_⟩; (try (rw [drewN_self wc]; generalize hq_ : World.drewN wc _ = wc; have n0_ : Aside0 (wc.heap[gb146]? = some (.cells #[.bool a0_0, .slice A0_1 l0_1.length c0_1] 24 (0, 0))) := ⟨by rw [← hq_]; exact (kb_ BK146.out)⟩; have n1_ : Aside0 (wc.heap[gb147]? = some (.cells #[.bool false, .slice none 0 0, .int .i64 0] 27 (0, 0))) := ⟨by rw [← hq_]; exact (kb_ BK147.out)⟩; have n2_ : Aside0 (Below w.heap.size w wc) := ⟨by rw [← hq_]; exact (bw_ HB.out)⟩; clear BK146 BK147 HB hq_; have BK146 := n0_; have BK147 := n1_; have HB := n2_; clear n0_ n1_ n2_)); (try (obtain ⟨hcz24_0, hcz24_1, hfz24_0, hfz24_1⟩ := c2_ BK146))) | ((with_reducible refine gate_callee (f := 39) rfl ?_); refine gl_ (some 21) Tryd.func39 #[.int .i64 (wrap64 (a1 + t150))] ?_; (with_reducible refine (dy_within.calls (wrap64 (a1 + t150)) true _ A19.out).mono ?_); rintro e w' ⟨rfl, ⟨nd, rfl⟩⟩; refine ⟨_, rfl, ?_⟩; (try (rw [drewN_self wc]; generalize hq_ : World.drewN wc _ = wc; have n0_ : Aside0 (wc.heap[gb146]? = some (.cells #[.bool a0_0, .slice A0_1 l0_1.length c0_1] 24 (0, 0))) := ⟨by rw [← hq_]; exact (kb_ BK146.out)⟩; have n1_ : Aside0 (wc.heap[gb147]? = some (.cells #[.bool false, .slice none 0 0, .int .i64 0] 27 (0, 0))) := ⟨by rw [← hq_]; exact (kb_ BK147.out)⟩; have n2_ : Aside0 (Below w.heap.size w wc) := ⟨by rw [← hq_]; exact (bw_ HB.out)⟩; clear BK146 BK147 HB hq_; have BK146 := n0_; have BK147 := n1_; have HB := n2_; clear n0_ n1_ n2_)); (try (obtain ⟨hcz24_0, hcz24_1, hfz24_0, hfz24_1⟩ := c2_ BK146))))
     replace BK146 := Aside0.mk (blk_drew BK146.out)
     replace BK147 := Aside0.mk (blk_drew BK147.out)
     replace HB := Aside0.mk (below_drew1 HB.out)
     refine start_ (n := 12) (S := fun w' => w'.cell? ⟨gb146, 0, none⟩ = some (.bool a0_0) ∧ w'.cell? ⟨gb146, 1, none⟩ = some (.slice A0_1 l0_1.length c0_1)) (ds := []) #[false, false, false, false, false, false, false, false, false, false, false, false] (by kernel_rfl) rfl rfl ⟨(blk_cell BK146.out 0).trans rfl, (blk_cell BK146.out 1).trans rfl⟩ (fun hHeld => ?_); refine with_tabW dy_Make.tab6 dy_Make.bits6 (fun HT_ HW_ => ?_)
     generalize wc.drew = w25 at BK146 BK147 HB hHeld ⊢
     refine pure_ (i := 0) (N := some 24) (v := ?_) (a' := ?_) #[true, false, false, false, false, false, false, false, false, false, false, false] rfl rfl (any_of HT_.out (by kernel_rfl)) (fun _ _ _ h => h) (Or.inl ⟨by rfl, ?_⟩) ?_ ?_
     rotate_left
     ·intro w'
      go_simp
      with_reducible rfl
     rotate_left
     ·exact pt_
     refine pure_ (i := 2) (N := some 26) (v := ?_) (a' := ?_) #[true, false, true, false, false, false, false, false, false, false, false, false] rfl rfl (any_of HT_.out (by kernel_rfl)) (fun _ _ _ h => h) (Or.inl ⟨by rfl, ?_⟩) ?_ ?_
     rotate_left
     ·intro w'
      go_simp
      with_reducible rfl
     rotate_left
     ·exact pt_
     refine pure_ (i := 4) (N := some 28) (v := ?_) (a' := ?_) #[true, false, true, false, true, false, false, false, false, false, false, false] rfl rfl (any_of HT_.out (by kernel_rfl)) (fun _ _ _ h => h) (Or.inl ⟨by rfl, ?_⟩) ?_ ?_
     rotate_left
     ·intro w'
      go_simp
      with_reducible rfl
     rotate_left
     ·exact pt_
     refine pure_ (i := 7) (N := some 31) (v := ?_) (a' := ?_) #[true, false, true, false, true, false, false, true, false, false, false, false] rfl rfl (any_of HT_.out (by kernel_rfl)) (fun _ _ _ h => h) (Or.inl ⟨by rfl, ?_⟩) ?_ ?_
     rotate_left
     ·intro w'
      go_simp
      with_reducible rfl
     rotate_left
     ·exact pt_
     refine pure_ (i := 8) (N := some 32) (v := ?_) (a' := ?_) #[true, false, true, false, true, false, false, true, true, false, false, false] rfl rfl (any_of HT_.out (by kernel_rfl)) (fun _ _ _ h => h) (Or.inl ⟨by rfl, ?_⟩) ?_ ?_
     rotate_left
     ·intro w'
      go_simp
      with_reducible rfl
     rotate_left
     ·exact pt_
     refine pure_ (i := 9) (N := some 33) (v := ?_) (a' := ?_) #[true, false, true, false, true, false, false, true, true, true, false, false] rfl rfl (any_of HT_.out (by kernel_rfl)) (fun _ _ _ h => h) (Or.inl ⟨by rfl, ?_⟩) ?_ ?_
     rotate_left
     ·intro w'
      go_simp
      with_reducible rfl
     rotate_left
     ·exact pt_
     refine take_ (i := 1) (N := some 25) (v := ?_) (a' := ?_) #[true, true, true, false, true, false, false, true, true, true, false, false] rfl rfl (take_ofW HT_.out HW_.out (by kernel_rfl)) (fun _ _ _ h => h) (Or.inl ⟨by rfl, ?_⟩) hHeld ?_ ?_
     rotate_left
     ·rintro w' ⟨s0, s1⟩
      go_simp
      with_reducible rfl
     rotate_left
     ·exact pt_
     refine take_ (i := 3) (N := some 27) (v := ?_) (a' := ?_) #[true, true, true, true, true, false, false, true, true, true, false, false] rfl rfl (take_ofW HT_.out HW_.out (by kernel_rfl)) (fun _ _ _ h => h) (Or.inl ⟨by rfl, ?_⟩) hHeld ?_ ?_
     rotate_left
     ·rintro w' ⟨s0, s1⟩
      go_simp
      with_reducible rfl
     rotate_left
     ·exact pt_
     refine one_ (i := 5) (N := some 29) #[true, true, true, true, true, true, false, true, true, true, false, false] rfl rfl (one_of HT_.out (by kernel_rfl)) (by decide) (fun K hK => ?_)
     refine gs_ Tryd.func42 #[.slice A0_1 l0_1.length c0_1, .int .i64 t150] ?_
     with_reducible refine (nat_Shr.calls kj2 _ _ l0_1 t150 t152 _ ?side1 ?side2 A21.out).mono ?_
     (case side1 => exact kc_ (Kd.C_below HR0_1.out HB.out))
     (case side2 => exact HC0_1.out)
     rintro e w26 ⟨v153, rfl, ho0, hb⟩
     refine ⟨_, rfl, ?_⟩
     have HO154 := Aside0.mk (Kd.R_lower ho0 (below_size (bw_ HB.out)))
     replace BK146 := kq_ BK146 hb
     replace BK147 := kq_ BK147 hb
     replace HB := bq_ HB hb
     (try clear hb)
     (try clear hb2)
     (try clear hk)
     (try clear hi)
     (try clear ho0)
     obtain ⟨Ao27, co27, eo27⟩ := Kd.R_slice HO154.out
     (first | subst eo27 | (injection eo27 with f1_ f2_ f3_; have f4_ := f1_.symm; have f5_ := f3_.symm; clear f1_ f2_ f3_; subst f4_; subst f5_))
     refine hK.out _ _ ⟨(blk_cell BK146.out 0).trans rfl, (blk_cell BK146.out 1).trans rfl⟩ (fun hHeld => ?_)
     clear hK K
     refine norm_ (a' := ?_) ?_ ?_
     rotate_left
     ·show Act.put _ (some 29) _ = _
      exact pt_
     refine one_ (i := 6) (N := some 30) #[true, true, true, true, true, true, true, true, true, true, false, false] rfl rfl (one_of HT_.out (by kernel_rfl)) (by decide) (fun K hK => ?_)
     refine gs_ Tryd.func41 #[.bool a0_0, .slice Ao27 t152.length co27] ?_
     with_reducible refine (whole_Make.calls kj2 a0_0 _ _ t152 t155 t156 _ ?side1 ?side2 A22.out).mono ?_
     (case side1 => exact kc_ (Kd.R_reads' HO154.out).2.2)
     (case side2 => exact (Kd.R_reads' HO154.out).2.1)
     rintro e w28 ⟨v157, rfl, ho0, hb⟩
     refine ⟨_, rfl, ?_⟩
     have HO158 := Aside0.mk (Kd.R_lower (Kd.R_new' ho0 (Kd.R_lt (kr_ HO154.out))) (below_size (bw_ HB.out)))
     replace HO154 := Aside0.mk (Kd.R_elder' (kr_ HO154.out) (Kd.R_base ho0) hb)
     replace BK146 := kq_ BK146 hb
     replace BK147 := kq_ BK147 hb
     replace HB := bq_ HB hb
     (try clear hb)
     (try clear hb2)
     (try clear hk)
     (try clear hi)
     (try clear ho0)
     obtain ⟨Ao29, co29, eo29⟩ := Kd.R_slice HO158.out
     (first | subst eo29 | (injection eo29 with f1_ f2_ f3_; have f4_ := f1_.symm; have f5_ := f3_.symm; clear f1_ f2_ f3_; subst f4_; subst f5_))
     refine hK.out _ _ ⟨(blk_cell BK146.out 0).trans rfl, (blk_cell BK146.out 1).trans rfl⟩ (fun hHeld => ?_)
     clear hK K
     refine norm_ (a' := ?_) ?_ ?_
     rotate_left
     ·show Act.put _ (some 30) _ = _
      exact pt_
     refine pure_ (i := 10) (N := some 34) (v := ?_) (a' := ?_) #[true, true, true, true, true, true, true, true, true, true, true, false] rfl rfl (any_of HT_.out (by kernel_rfl)) (fun _ _ _ h => h) (Or.inl ⟨by rfl, ?_⟩) ?_ ?_
     rotate_left
     ·intro w'
      go_simp
      with_reducible rfl
     rotate_left
     ·exact pt_
     refine one_ (i := 11) (N := none) #[true, true, true, true, true, true, true, true, true, true, true, true] rfl rfl (one_of HT_.out (by kernel_rfl)) (by decide) (fun K hK => ?_)
     have hs30 : w28.cell? ⟨gb147, 0, none⟩ = some (.bool false) := (blk_cell BK147.out 0).trans rfl
     have hfs30 := fz_ BK147 0
     have hns30_0 := NB146_147.out
     have hms30_0 := NB147_146.out
     have hs31 : w28.cell? ⟨gb147, 1, none⟩ = some (.slice none 0 0) := (blk_cell BK147.out 1).trans rfl
     have hfs31 := fz_ BK147 1
     have hns31_0 := NB146_147.out
     have hms31_0 := NB147_146.out
     have hs32 : w28.cell? ⟨gb147, 2, none⟩ = some (.int .i64 0) := (blk_cell BK147.out 2).trans rfl
     have hfs32 := fz_ BK147 2
     have hns32_0 := NB146_147.out
     have hms32_0 := NB147_146.out
     refine skip_ (w1 := ?_) (by rfl) rfl ?_ ?_
     rotate_left
     ·go_simp
      rfl
     refine hK.out _ _ ⟨((cell_far (p := ⟨gb147, _, none⟩) NB146_147.out _).trans (((cell_far (p := ⟨gb147, _, none⟩) NB146_147.out _).trans (((cell_far (p := ⟨gb147, _, none⟩) NB146_147.out _).trans (hHeld.1)))))), ((cell_far (p := ⟨gb147, _, none⟩) NB146_147.out _).trans (((cell_far (p := ⟨gb147, _, none⟩) NB146_147.out _).trans (((cell_far (p := ⟨gb147, _, none⟩) NB146_147.out _).trans (hHeld.2))))))⟩ (fun hHeld => ?_)
     clear hK K
     refine done_ (done_of HT_.out (by kernel_rfl)) ?_
     try go_wp2
     refine bodyPost_ret (results_cell_row rfl _ _ gb147 27 #[.bool t155, .slice Ao29 t156.length co29, .int .i64 (wrap64 (a1 + t150))] (0, 0) _ rfl (by refine kb_ ?_; refine bp_ #[.bool t155, .slice Ao29 t156.length co29, .int .i64 0] 2 ?_; refine bp_ #[.bool t155, .slice none 0 0, .int .i64 0] 1 ?_; refine bp_ #[.bool false, .slice none 0 0, .int .i64 0] 0 ?_; exact BK147.out) Tryd.underlying27 rfl (by kernel_rfl)) rfl ?_
     exact ⟨_, rf_, by (with_reducible repeat (first | apply Kd.R_alloc | apply Kd.R_drewN | apply Kd.R_drew)); exact Kd.R_mono (Kd.R_far (p := ⟨gb147, 2, none⟩) (Kd.R_far (p := ⟨gb147, 1, none⟩) (Kd.R_far (p := ⟨gb147, 0, none⟩) (Kd.R_types HO158.out BK147.out (by decide)) (fun _ hk => hk.2) (.bool t155)) (fun _ hk => hk.2) (.slice Ao29 t156.length co29)) (fun _ hk => hk.2) (.int .i64 (wrap64 (a1 + t150)))) (fun _ hk => trivial), bw_ HB.out⟩
    ·replace c20 := Bool.eq_false_iff.mpr c20
     subst c20
     have H1 : (some (false, ([] : List Int), 0)) = some (r1, r2, r3) := by rw [if_neg (show ¬ (false = true) by decide)] at H; exact H
     clear H
     have H := H1
     clear H1
     simp only [Option.some.injEq, Prod.mk.injEq] at H
     obtain ⟨rfl, rfl, rfl⟩ := H
     have hnb33 := NB146_147.out
     have hnc33 := NB147_146.out
     obtain ⟨hcz34_0, hcz34_1, hfz34_0, hfz34_1⟩ := c2_ BK146
     go_wp2_with (first | ((with_reducible refine gate_callee (f := 40) rfl ?_); refine gl_ (some 17) Tryd.func40 #[.slice A0_1 l0_1.length c0_1] ?_; (with_reducible refine (dy_trailing.calls kj2 _ _ l0_1 t150 _ ?side1 ?side2 A18.out ?sidet).mono ?_); (case sidet => exact Kd.C_below HTAB.out (bw_ HB.out)); (case side1 => exact kc_ (Kd.C_below HR0_1.out HB.out)); (case side2 => exact HC0_1.out); rintro e w' ⟨rfl, ⟨nd, rfl⟩⟩; refine ⟨_, rfl, ?_⟩; (try (rw [drewN_self wc]; generalize hq_ : World.drewN wc _ = wc; have n0_ : Aside0 (wc.heap[gb146]? = some (.cells #[.bool a0_0, .slice A0_1 l0_1.length c0_1] 24 (0, 0))) := ⟨by rw [← hq_]; exact (kb_ BK146.out)⟩; have n1_ : Aside0 (wc.heap[gb147]? = some (.cells #[.bool false, .slice none 0 0, .int .i64 0] 27 (0, 0))) := ⟨by rw [← hq_]; exact (kb_ BK147.out)⟩; have n2_ : Aside0 (Below w.heap.size w wc) := ⟨by rw [← hq_]; exact (bw_ HB.out)⟩; clear BK146 BK147 HB hq_; have BK146 := n0_; have BK147 := n1_; have HB := n2_; clear n0_ n1_ n2_)); (try (obtain ⟨hcz34_0, hcz34_1, hfz34_0, hfz34_1⟩ := c2_ BK146))) | ((with_reducible refine gate_callee (f := 39) rfl ?_); refine gl_ (some 21) Tryd.func39 #[.int .i64 (wrap64 (a1 + t150))] ?_; (with_reducible refine (dy_within.calls (wrap64 (a1 + t150)) false _ A19.out).mono ?_); rintro e w' ⟨rfl, ⟨nd, rfl⟩⟩; refine ⟨_, rfl, ?_⟩; (try (rw [drewN_self wc]; generalize hq_ : World.drewN wc _ = wc; have n0_ : Aside0 (wc.heap[gb146]? = some (.cells #[.bool a0_0, .slice A0_1 l0_1.length c0_1] 24 (0, 0))) := ⟨by rw [← hq_]; exact (kb_ BK146.out)⟩; have n1_ : Aside0 (wc.heap[gb147]? = some (.cells #[.bool false, .slice none 0 0, .int .i64 0] 27 (0, 0))) := ⟨by rw [← hq_]; exact (kb_ BK147.out)⟩; have n2_ : Aside0 (Below w.heap.size w wc) := ⟨by rw [← hq_]; exact (bw_ HB.out)⟩; clear BK146 BK147 HB hq_; have BK146 := n0_; have BK147 := n1_; have HB := n2_; clear n0_ n1_ n2_)); (try (obtain ⟨hcz34_0, hcz34_1, hfz34_0, hfz34_1⟩ := c2_ BK146)); obtain ⟨hcz35_0, hcz35_1, hcz35_2, hfz35_0, hfz35_1, hfz35_2⟩ := c3_ BK147))
     refine bodyPost_ret (results_cell_row rfl _ _ gb147 27 #[.bool false, .slice none 0 0, .int .i64 0] (0, 0) _ rfl (by refine kb_ ?_; refine bp_ #[.bool false, .slice none 0 0, .int .i64 0] 2 ?_; refine bp_ #[.bool false, .slice none 0 0, .int .i64 0] 1 ?_; refine bp_ #[.bool false, .slice none 0 0, .int .i64 0] 0 ?_; exact BK147.out) Tryd.underlying27 rfl (by kernel_rfl)) rfl ?_
     exact ⟨_, rf_, by first | exact Kd.R_nil _ _ _ _ _ | exact Kd.N_nil _ _ _ _ _ | exact Kd.V_nil _ _ _ _ _ | exact Kd.Q_nil _ _ _ _ _ | exact Kd.S_nil _ _ _ _ _, bw_ HB.out⟩

/-! ### whole_May: function 47 -/
set_option maxHeartbeats 8000000 in
set_option maxRecDepth 100000 in
theorem whole_May.calls (a0_0 : Bool) (A0_1 : Option Addr) (c0_1 : Nat) (l0_1 : List Int) (r : Bool) (w : World) (hr0_1 : Kd.C (Kd.int .u32) w A0_1 l0_1.length l0_1) (hc0_1 : l0_1.length ≤ c0_1) (h : whole_May.f a0_0 l0_1 = some r) :
  Calls Tryd.prog 47 #[.agg #[.bool a0_0, .slice A0_1 l0_1.length c0_1]] w fun e w' => e = .returned (.bool r) ∧ Below w.heap.size w w' := by
 have hu24 := Tryd.underlying24
 have HR0_1 := Aside0.mk hr0_1
 have HC0_1 := Aside0.mk hc0_1
 clear hr0_1 hc0_1
 have HB := Aside0.mk (Below.refl w.heap.size w)
 have H : (if (l0_1.length : Int) = 0 then (some (!a0_0)) else (if 0 ≤ (wrap64 ((l0_1.length : Int) - 1)) then (if (wrap64 ((l0_1.length : Int) - 1)) < (l0_1.length : Int) then (some ((rd l0_1 (wrap64 ((l0_1.length : Int) - 1))) != 0)) else (none)) else (none))) = some r := h
 clear h
 by_cases c2 : (l0_1.length : Int) = 0
 ·rw [if_pos c2] at H
  have c2b0 : ((l0_1.length : Int) == 0) = true := beq_iff_eq.mpr c2
  have c2b1 : ((l0_1.length : Int) != 0) = false := bne_eq_false_iff_eq.mpr c2
  clear c2
  obtain rfl := Option.some.inj H
  go_enter Tryd.func47, Tryd.ntmps47
  go_wp2_with (first | ((with_reducible refine gate_dst (N := 1) rfl ?_); refine bx_ 1 #[.bool a0_0, .slice A0_1 l0_1.length c0_1] 24 ?_; intro gb159 hg w3 hbox hb; have BK159 := Aside0.mk (hbox); have GW159 := ge_ hg HB; have GE159 := ge_ hg HB; replace HB := bq_ HB hb; clear hb hbox hg; obtain ⟨hcz4_0, hcz4_1, hfz4_0, hfz4_1⟩ := c2_ BK159))
  go_ret
  exact ⟨rf_, bw_ HB.out⟩
 ·rw [if_neg c2] at H
  have c2b0 : ((l0_1.length : Int) == 0) = false := beq_eq_false_iff_ne.mpr c2
  have c2b1 : ((l0_1.length : Int) != 0) = true := bne_iff_ne.mpr c2
  have c2b2 : ¬ (l0_1 = []) := fun h_ => c2 (by rw [h_]; rfl)
  obtain ⟨ji5, hji5⟩ : ∃ j_ : Int, (wrap64 ((l0_1.length : Int) - 1)) = j_ := ⟨_, rfl⟩
  (first | rw [hji5] at H | simp only [hji5] at H)
  have hji5w : (IntKind.i64.wrap ((l0_1.length : Int) - 1)) = ji5 := (i64_w _).trans hji5
  by_cases c6 : 0 ≤ (ji5)
  ·rw [if_pos c6] at H
   have c6b0 : decide (0 ≤ (ji5)) = true := decide_eq_true c6
   clear c6
   by_cases c7 : (ji5) < (l0_1.length : Int)
   ·rw [if_pos c7] at H
    have c7b0 : decide ((ji5) < (l0_1.length : Int)) = true := decide_eq_true c7
    clear c7
    obtain rfl := Option.some.inj H
    go_enter Tryd.func47, Tryd.ntmps47
    go_wp2_with (first | ((with_reducible refine gate_dst (N := 1) rfl ?_); refine bx_ 1 #[.bool a0_0, .slice A0_1 l0_1.length c0_1] 24 ?_; intro gb159 hg w8 hbox hb; have BK159 := Aside0.mk (hbox); have GW159 := ge_ hg HB; have GE159 := ge_ hg HB; replace HB := bq_ HB hb; clear hb hbox hg; obtain ⟨hcz9_0, hcz9_1, hfz9_0, hfz9_1⟩ := c2_ BK159; have p160 : 0 ≤ ((ji5) : Int) := of_decide_eq_true (by first | (with_reducible assumption) | assumption); have q160 : (ji5) < (l0_1.length : Int) := of_decide_eq_true (by first | (with_reducible assumption) | assumption); obtain ⟨ad160, e160, hx160_0⟩ := Kd.at_int HR0_1.out (ji5) p160 q160; cases e160; replace hx160_0 := (HB.out.cell (World.block_lt_of_cell? w _ hx160_0)).trans hx160_0; replace p160 := eq_true p160; replace q160 := eq_true q160))
    go_ret
    exact ⟨by first | rfl | (simp [errW_none, errW_some] <;> rfl) | (simp only [← hji5]; first | rfl | (simp [errW_none, errW_some] <;> rfl)) | (simp [*, errW_none, errW_some] <;> rfl), bw_ HB.out⟩
   ·rw [if_neg c7] at H
    exact absurd H (by simp)
  ·rw [if_neg c6] at H
   exact absurd H (by simp)

/-! ### dy_May: function 15 -/
set_option maxHeartbeats 8000000 in
set_option maxRecDepth 100000 in
theorem dy_May.calls (a0_0 : Bool) (A0_1 : Option Addr) (c0_1 : Nat) (l0_1 : List Int) (a0_2 : Int) (r : Bool) (w : World) (hr0_1 : Kd.C (Kd.int .u32) w A0_1 l0_1.length l0_1) (hc0_1 : l0_1.length ≤ c0_1) (h : dy_May.f a0_0 l0_1 a0_2 = some r) :
  Calls Tryd.prog 15 #[.agg #[.bool a0_0, .slice A0_1 l0_1.length c0_1, .int .i64 a0_2]] w fun e w' => e = .returned (.bool r) ∧ Below w.heap.size w w' := by
 have hu27 := Tryd.underlying27
 have hu24 := Tryd.underlying24
 have HR0_1 := Aside0.mk hr0_1
 have HC0_1 := Aside0.mk hc0_1
 clear hr0_1 hc0_1
 have HB := Aside0.mk (Below.refl w.heap.size w)
 have H : (if (l0_1.length : Int) = 0 then (if a0_0 = true then (some false) else (some (a0_2 == 0))) else ((whole_May.f a0_0 l0_1).bind fun t162 => (if t162 = true then (if 0 < (l0_1.length : Int) then (if (Go.bits .and .u32 (rd l0_1 0) 1) = 1 then ((dy_within.f a0_2).bind fun t164 => (some t164)) else (some false)) else (none)) else (some false)))) = some r := h
 clear h
 by_cases c2 : (l0_1.length : Int) = 0
 ·rw [if_pos c2] at H
  have c2b0 : ((l0_1.length : Int) == 0) = true := beq_iff_eq.mpr c2
  have c2b1 : ((l0_1.length : Int) != 0) = false := bne_eq_false_iff_eq.mpr c2
  clear c2
  by_cases c3 : a0_0 = true
  ·subst c3
   have H1 : (some false) = some r := by rw [if_pos rfl] at H; exact H
   clear H
   have H := H1
   clear H1
   obtain rfl := Option.some.inj H
   go_enter Tryd.func15, Tryd.ntmps15
   go_wp2_with (first | ((with_reducible refine gate_dst (N := 1) rfl ?_); refine bx_ 1 #[.bool true, .slice A0_1 l0_1.length c0_1, .int .i64 a0_2] 27 ?_; intro gb161 hg w4 hbox hb; have BK161 := Aside0.mk (hbox); have GW161 := ge_ hg HB; have GE161 := ge_ hg HB; replace HB := bq_ HB hb; clear hb hbox hg; obtain ⟨hcz5_0, hcz5_1, hcz5_2, hfz5_0, hfz5_1, hfz5_2⟩ := c3_ BK161))
   go_ret
   exact ⟨rf_, bw_ HB.out⟩
  ·replace c3 := Bool.eq_false_iff.mpr c3
   subst c3
   have H1 : (some (a0_2 == 0)) = some r := by rw [if_neg (show ¬ (false = true) by decide)] at H; exact H
   clear H
   have H := H1
   clear H1
   obtain rfl := Option.some.inj H
   go_enter Tryd.func15, Tryd.ntmps15
   go_wp2_with (first | ((with_reducible refine gate_dst (N := 1) rfl ?_); refine bx_ 1 #[.bool false, .slice A0_1 l0_1.length c0_1, .int .i64 a0_2] 27 ?_; intro gb161 hg w6 hbox hb; have BK161 := Aside0.mk (hbox); have GW161 := ge_ hg HB; have GE161 := ge_ hg HB; replace HB := bq_ HB hb; clear hb hbox hg; obtain ⟨hcz7_0, hcz7_1, hcz7_2, hfz7_0, hfz7_1, hfz7_2⟩ := c3_ BK161))
   go_ret
   exact ⟨rf_, bw_ HB.out⟩
 ·rw [if_neg c2] at H
  have c2b0 : ((l0_1.length : Int) == 0) = false := beq_eq_false_iff_ne.mpr c2
  have c2b1 : ((l0_1.length : Int) != 0) = true := bne_iff_ne.mpr c2
  have c2b2 : ¬ (l0_1 = []) := fun h_ => c2 (by rw [h_]; rfl)
  replace H := Option.bind_eq_some_iff.mp H
  obtain ⟨t162, A80, H⟩ := H
  (try dsimp only at H)
  have A8 := Aside0.mk A80
  clear A80
  by_cases c9 : t162 = true
  ·subst c9
   have H1 : (if 0 < (l0_1.length : Int) then (if (Go.bits .and .u32 (rd l0_1 0) 1) = 1 then ((dy_within.f a0_2).bind fun t164 => (some t164)) else (some false)) else (none)) = some r := by rw [if_pos rfl] at H; exact H
   clear H
   have H := H1
   clear H1
   by_cases c10 : 0 < (l0_1.length : Int)
   ·rw [if_pos c10] at H
    have c10b0 : decide (0 < (l0_1.length : Int)) = true := decide_eq_true c10
    have c10b1 : decide (0 < l0_1.length) = true := decide_eq_true (by omega)
    clear c10
    by_cases c11 : (Go.bits .and .u32 (rd l0_1 0) 1) = 1
    ·rw [if_pos c11] at H
     have c11b0 : ((Go.bits .and .u32 (rd l0_1 0) 1) == 1) = true := beq_iff_eq.mpr c11
     have c11b1 : ((Go.bits .and .u32 (rd l0_1 0) 1) != 1) = false := bne_eq_false_iff_eq.mpr c11
     clear c11
     replace H := Option.bind_eq_some_iff.mp H
     obtain ⟨t164, A120, H⟩ := H
     (try dsimp only at H)
     have A12 := Aside0.mk A120
     clear A120
     obtain rfl := Option.some.inj H
     go_enter Tryd.func15, Tryd.ntmps15
     go_wp2_with (first | ((with_reducible refine gate_dst (N := 1) rfl ?_); refine bx_ 1 #[.bool a0_0, .slice A0_1 l0_1.length c0_1, .int .i64 a0_2] 27 ?_; intro gb161 hg w13 hbox hb; have BK161 := Aside0.mk (hbox); have GW161 := ge_ hg HB; have GE161 := ge_ hg HB; replace HB := bq_ HB hb; clear hb hbox hg; obtain ⟨hcz14_0, hcz14_1, hcz14_2, hfz14_0, hfz14_1, hfz14_2⟩ := c3_ BK161) | ((with_reducible refine gate_callee (f := 47) rfl ?_); refine gl_ (some 19) Tryd.func47 #[.agg #[.bool a0_0, .slice A0_1 l0_1.length c0_1]] ?_; (with_reducible refine (whole_May.calls a0_0 _ _ l0_1 true _ ?side1 ?side2 A8.out).mono ?_); (case side1 => exact kc_ (Kd.C_below HR0_1.out HB.out)); (case side2 => exact HC0_1.out); rintro e w15 ⟨rfl, hb⟩; refine ⟨_, rfl, ?_⟩; replace BK161 := kq_ BK161 hb; replace HB := bq_ HB hb; (try clear hb); (try clear hb2); (try clear hk); (try clear hi); obtain ⟨hcz16_0, hcz16_1, hcz16_2, hfz16_0, hfz16_1, hfz16_2⟩ := c3_ BK161; have p163 : 0 ≤ (0 : Int) := (by omega); have q163 : 0 < (l0_1.length : Int) := of_decide_eq_true (by first | (with_reducible assumption) | assumption); obtain ⟨ad163, e163, hx163_0⟩ := Kd.at_int HR0_1.out 0 p163 q163; cases e163; have qi163 : (0 < l0_1.length) = True := eq_true (by omega); (try rw [show ((0 : Int)).toNat = 0 from rfl] at hx163_0); (try rw [Addr.add_zero'] at hx163_0); replace hx163_0 := (HB.out.cell (World.block_lt_of_cell? w _ hx163_0)).trans hx163_0; replace p163 := eq_true p163; replace q163 := eq_true q163) | (go_at_call 39; (with_reducible refine (dy_within.calls a0_2 t164 _ A12.out).mono ?_); rintro e w' ⟨rfl, ⟨nd, rfl⟩⟩))
     go_ret
     exact ⟨rf_, bw_ HB.out⟩
    ·rw [if_neg c11] at H
     have c11b0 : ((Go.bits .and .u32 (rd l0_1 0) 1) == 1) = false := beq_eq_false_iff_ne.mpr c11
     have c11b1 : ((Go.bits .and .u32 (rd l0_1 0) 1) != 1) = true := bne_iff_ne.mpr c11
     obtain rfl := Option.some.inj H
     go_enter Tryd.func15, Tryd.ntmps15
     go_wp2_with (first | ((with_reducible refine gate_dst (N := 1) rfl ?_); refine bx_ 1 #[.bool a0_0, .slice A0_1 l0_1.length c0_1, .int .i64 a0_2] 27 ?_; intro gb161 hg w17 hbox hb; have BK161 := Aside0.mk (hbox); have GW161 := ge_ hg HB; have GE161 := ge_ hg HB; replace HB := bq_ HB hb; clear hb hbox hg; obtain ⟨hcz18_0, hcz18_1, hcz18_2, hfz18_0, hfz18_1, hfz18_2⟩ := c3_ BK161) | ((with_reducible refine gate_callee (f := 47) rfl ?_); refine gl_ (some 19) Tryd.func47 #[.agg #[.bool a0_0, .slice A0_1 l0_1.length c0_1]] ?_; (with_reducible refine (whole_May.calls a0_0 _ _ l0_1 true _ ?side1 ?side2 A8.out).mono ?_); (case side1 => exact kc_ (Kd.C_below HR0_1.out HB.out)); (case side2 => exact HC0_1.out); rintro e w19 ⟨rfl, hb⟩; refine ⟨_, rfl, ?_⟩; replace BK161 := kq_ BK161 hb; replace HB := bq_ HB hb; (try clear hb); (try clear hb2); (try clear hk); (try clear hi); obtain ⟨hcz20_0, hcz20_1, hcz20_2, hfz20_0, hfz20_1, hfz20_2⟩ := c3_ BK161; have p163 : 0 ≤ (0 : Int) := (by omega); have q163 : 0 < (l0_1.length : Int) := of_decide_eq_true (by first | (with_reducible assumption) | assumption); obtain ⟨ad163, e163, hx163_0⟩ := Kd.at_int HR0_1.out 0 p163 q163; cases e163; have qi163 : (0 < l0_1.length) = True := eq_true (by omega); (try rw [show ((0 : Int)).toNat = 0 from rfl] at hx163_0); (try rw [Addr.add_zero'] at hx163_0); replace hx163_0 := (HB.out.cell (World.block_lt_of_cell? w _ hx163_0)).trans hx163_0; replace p163 := eq_true p163; replace q163 := eq_true q163))
     go_ret
     exact ⟨rf_, bw_ HB.out⟩
   ·rw [if_neg c10] at H
    exact absurd H (by simp)
  ·replace c9 := Bool.eq_false_iff.mpr c9
   subst c9
   have H1 : (some false) = some r := by rw [if_neg (show ¬ (false = true) by decide)] at H; exact H
   clear H
   have H := H1
   clear H1
   obtain rfl := Option.some.inj H
   go_enter Tryd.func15, Tryd.ntmps15
   go_wp2_with (first | ((with_reducible refine gate_dst (N := 1) rfl ?_); refine bx_ 1 #[.bool a0_0, .slice A0_1 l0_1.length c0_1, .int .i64 a0_2] 27 ?_; intro gb161 hg w21 hbox hb; have BK161 := Aside0.mk (hbox); have GW161 := ge_ hg HB; have GE161 := ge_ hg HB; replace HB := bq_ HB hb; clear hb hbox hg; obtain ⟨hcz22_0, hcz22_1, hcz22_2, hfz22_0, hfz22_1, hfz22_2⟩ := c3_ BK161) | ((with_reducible refine gate_callee (f := 47) rfl ?_); refine gl_ (some 19) Tryd.func47 #[.agg #[.bool a0_0, .slice A0_1 l0_1.length c0_1]] ?_; (with_reducible refine (whole_May.calls a0_0 _ _ l0_1 false _ ?side1 ?side2 A8.out).mono ?_); (case side1 => exact kc_ (Kd.C_below HR0_1.out HB.out)); (case side2 => exact HC0_1.out); rintro e w23 ⟨rfl, hb⟩; refine ⟨_, rfl, ?_⟩; replace BK161 := kq_ BK161 hb; replace HB := bq_ HB hb; (try clear hb); (try clear hb2); (try clear hk); (try clear hi)))
   go_ret
   exact ⟨rf_, bw_ HB.out⟩

/-! ### dy_fair: function 46 -/
set_option maxHeartbeats 8000000 in
set_option maxRecDepth 100000 in
theorem dy_fair.calls (k : Nat) (a0_0 : Bool) (P0_1_ : Nat → Prop) (A0_1 : Option Addr) (c0_1 : Nat) (l0_1 : List Int) (a0_2 : Int) (r1 : Bool) (r2 : List Int) (r3 : Int) (w : World) (hs0_1 : Kd.V (Kd.int .u32) 51 w w.heap.size (fun k_ => P0_1_ k_) (.slice A0_1 l0_1.length c0_1) l0_1) (h : dy_fair.f k a0_0 l0_1 a0_2 = some (r1, r2, r3)) (htab_ : Kd.C (Kd.int .u8) w (some ⟨0, 0, none⟩) 32 tz32tab) :
  Calls Tryd.prog 46 #[.agg #[.bool a0_0, .slice A0_1 l0_1.length c0_1, .int .i64 a0_2]] w fun e w' => ∃ v1_ : Value, e = .returned (.agg #[.bool r1, v1_, .int .i64 r3]) ∧ Kd.V (Kd.int .u32) 51 w' w.heap.size (fun k_ => (P0_1_ k_ ∨ w.heap.size ≤ k_)) v1_ r2 ∧ Below w.heap.size w w' := by
 have HTAB := Aside0.mk htab_
 clear htab_
 have hu27 := Tryd.underlying27
 have hu24 := Tryd.underlying24
 have HO0_1 := Aside0.mk (show Kd.V (Kd.int .u32) 51 w w.heap.size (fun k_ => (P0_1_ k_ ∨ w.heap.size ≤ k_)) (.slice A0_1 l0_1.length c0_1) l0_1 from Kd.V_mono hs0_1 (fun k_ hk => .inl hk))
 have HB := Aside0.mk (Below.refl w.heap.size w)
 have H : ((dy_May.f a0_0 l0_1 a0_2).bind fun t167 => (if t167 = true then (some (a0_0, l0_1, a0_2)) else ((dy_Make.f k a0_0 l0_1 a0_2).bind fun bt168 => (some (bt168.1, bt168.2.1, bt168.2.2))))) = some (r1, r2, r3) := h
 clear h
 replace H := Option.bind_eq_some_iff.mp H
 obtain ⟨t167, A20, H⟩ := H
 (try dsimp only at H)
 have A2 := Aside0.mk A20
 clear A20
 by_cases c3 : t167 = true
 ·subst c3
  have H1 : (some (a0_0, l0_1, a0_2)) = some (r1, r2, r3) := by rw [if_pos rfl] at H; exact H
  clear H
  have H := H1
  clear H1
  simp only [Option.some.injEq, Prod.mk.injEq] at H
  obtain ⟨rfl, rfl, rfl⟩ := H
  go_enter Tryd.func46, Tryd.ntmps46
  go_wp2_with (first | ((with_reducible refine gate_dst (N := 1) rfl ?_); refine bx_ 1 #[.bool a0_0, .slice A0_1 l0_1.length c0_1, .int .i64 a0_2] 27 ?_; intro gb165 hg w4 hbox hb; have n0_ := Aside0.mk (Kd.V_below (Kd.V_elderB (by (with_reducible repeat (first | apply Kd.V_alloc | apply Kd.V_drewN | apply Kd.V_drew)); exact HO0_1.out) gb165 (Nat.le_of_eq hg.symm)) hb); have n1_ := bq_ HB hb; have n2_ := Aside0.mk (hbox); have n3_ := ge_ hg HB; have n4_ := ge_ hg HB; clear HO0_1; clear HB; have HO0_1 := n0_; have HB := n1_; have BK165 := n2_; have GW165 := n3_; have GE165 := n4_; clear n0_ n1_ n2_ n3_ n4_; clear hb hbox hg) | ((with_reducible refine gate_dst (N := 2) rfl ?_); refine bx_ 2 #[.bool false, .slice none 0 0, .int .i64 0] 27 ?_; intro gb166 hg w5 hbox hb; have n0_ := Aside0.mk (Kd.V_below (Kd.V_elderB (by (with_reducible repeat (first | apply Kd.V_alloc | apply Kd.V_drewN | apply Kd.V_drew)); exact HO0_1.out) gb166 (Nat.le_of_eq hg.symm)) hb); have n1_ := kq_ BK165 hb; have n2_ := bq_ HB hb; have n3_ := Aside0.mk (hbox); have n4_ := ge_ hg HB; have n5_ := ge_ hg HB; have n6_ := nb_ hg BK165; have n7_ := nc_ hg BK165; clear HO0_1; clear BK165; clear HB; have HO0_1 := n0_; have BK165 := n1_; have HB := n2_; have BK166 := n3_; have GW166 := n4_; have GE166 := n5_; have NB165_166 := n6_; have NB166_165 := n7_; clear n0_ n1_ n2_ n3_ n4_ n5_ n6_ n7_; clear hb hbox hg; have hnb6 := NB165_166.out; have hnc6 := NB166_165.out; obtain ⟨hcz7_0, hcz7_1, hcz7_2, hfz7_0, hfz7_1, hfz7_2⟩ := c3_ BK165) | ((with_reducible refine gate_callee (f := 15) rfl ?_); refine gl_ (some 4) Tryd.func15 #[.agg #[.bool a0_0, .slice A0_1 l0_1.length c0_1, .int .i64 a0_2]] ?_; (with_reducible refine (dy_May.calls a0_0 _ _ l0_1 a0_2 true _ ?side1 ?side2 A2.out).mono ?_); (case side1 => exact kc_ (Kd.V_reads' HO0_1.out).2.2); (case side2 => exact (Kd.V_reads' HO0_1.out).2.1); rintro e w8 ⟨rfl, hb⟩; refine ⟨_, rfl, ?_⟩; have n0_ := Aside0.mk (Kd.V_below (by (with_reducible repeat (first | apply Kd.V_alloc | apply Kd.V_drewN | apply Kd.V_drew)); exact HO0_1.out) hb); have n1_ := kq_ BK165 hb; have n2_ := kq_ BK166 hb; have n3_ := bq_ HB hb; clear HO0_1; clear BK165; clear BK166; clear HB; have HO0_1 := n0_; have BK165 := n1_; have BK166 := n2_; have HB := n3_; clear n0_ n1_ n2_ n3_; (try clear hb); (try clear hb2); (try clear hk); (try clear hi); obtain ⟨hcz9_0, hcz9_1, hcz9_2, hfz9_0, hfz9_1, hfz9_2⟩ := c3_ BK165; obtain ⟨hcz10_0, hcz10_1, hcz10_2, hfz10_0, hfz10_1, hfz10_2⟩ := c3_ BK166))
  refine bodyPost_ret (results_cell_row rfl _ _ gb166 27 #[.bool a0_0, .slice A0_1 l0_1.length c0_1, .int .i64 a0_2] (0, 0) _ rfl (by refine kb_ ?_; refine bp_ #[.bool a0_0, .slice A0_1 l0_1.length c0_1, .int .i64 0] 2 ?_; refine bp_ #[.bool a0_0, .slice none 0 0, .int .i64 0] 1 ?_; refine bp_ #[.bool false, .slice none 0 0, .int .i64 0] 0 ?_; exact BK166.out) Tryd.underlying27 rfl (by kernel_rfl)) rfl ?_
  exact ⟨_, rf_, by (with_reducible repeat (first | apply Kd.V_alloc | apply Kd.V_drewN | apply Kd.V_drew)); exact Kd.V_mono (Kd.V_far (p := ⟨gb166, 2, none⟩) (Kd.V_far (p := ⟨gb166, 1, none⟩) (Kd.V_far (p := ⟨gb166, 0, none⟩) (Kd.V_mono HO0_1.out (fun k_ hk => (⟨hk, hk.2⟩ : _ ∧ k_ ≠ gb166))) (fun _ hk => hk.2) (.bool a0_0)) (fun _ hk => hk.2) (.slice A0_1 l0_1.length c0_1)) (fun _ hk => hk.2) (.int .i64 a0_2)) (fun _ hk => hk.1.1.1), bw_ HB.out⟩
 ·replace c3 := Bool.eq_false_iff.mpr c3
  subst c3
  have H1 : ((dy_Make.f k a0_0 l0_1 a0_2).bind fun bt168 => (some (bt168.1, bt168.2.1, bt168.2.2))) = some (r1, r2, r3) := by rw [if_neg (show ¬ (false = true) by decide)] at H; exact H
  clear H
  have H := H1
  clear H1
  replace H := Option.bind_eq_some_iff.mp H
  obtain ⟨⟨t168, t169, t172⟩, A110, H⟩ := H
  (try dsimp only at H)
  have A11 := Aside0.mk A110
  clear A110
  simp only [Option.some.injEq, Prod.mk.injEq] at H
  obtain ⟨rfl, rfl, rfl⟩ := H
  go_enter Tryd.func46, Tryd.ntmps46
  go_wp2_with (first | ((with_reducible refine gate_dst (N := 1) rfl ?_); refine bx_ 1 #[.bool a0_0, .slice A0_1 l0_1.length c0_1, .int .i64 a0_2] 27 ?_; intro gb165 hg w12 hbox hb; have n0_ := Aside0.mk (Kd.V_below (Kd.V_elderB (by (with_reducible repeat (first | apply Kd.V_alloc | apply Kd.V_drewN | apply Kd.V_drew)); exact HO0_1.out) gb165 (Nat.le_of_eq hg.symm)) hb); have n1_ := bq_ HB hb; have n2_ := Aside0.mk (hbox); have n3_ := ge_ hg HB; have n4_ := ge_ hg HB; clear HO0_1; clear HB; have HO0_1 := n0_; have HB := n1_; have BK165 := n2_; have GW165 := n3_; have GE165 := n4_; clear n0_ n1_ n2_ n3_ n4_; clear hb hbox hg) | ((with_reducible refine gate_dst (N := 2) rfl ?_); refine bx_ 2 #[.bool false, .slice none 0 0, .int .i64 0] 27 ?_; intro gb166 hg w13 hbox hb; have n0_ := Aside0.mk (Kd.V_below (Kd.V_elderB (by (with_reducible repeat (first | apply Kd.V_alloc | apply Kd.V_drewN | apply Kd.V_drew)); exact HO0_1.out) gb166 (Nat.le_of_eq hg.symm)) hb); have n1_ := kq_ BK165 hb; have n2_ := bq_ HB hb; have n3_ := Aside0.mk (hbox); have n4_ := ge_ hg HB; have n5_ := ge_ hg HB; have n6_ := nb_ hg BK165; have n7_ := nc_ hg BK165; clear HO0_1; clear BK165; clear HB; have HO0_1 := n0_; have BK165 := n1_; have HB := n2_; have BK166 := n3_; have GW166 := n4_; have GE166 := n5_; have NB165_166 := n6_; have NB166_165 := n7_; clear n0_ n1_ n2_ n3_ n4_ n5_ n6_ n7_; clear hb hbox hg; have hnb14 := NB165_166.out; have hnc14 := NB166_165.out; obtain ⟨hcz15_0, hcz15_1, hcz15_2, hfz15_0, hfz15_1, hfz15_2⟩ := c3_ BK165) | ((with_reducible refine gate_callee (f := 15) rfl ?_); refine gl_ (some 4) Tryd.func15 #[.agg #[.bool a0_0, .slice A0_1 l0_1.length c0_1, .int .i64 a0_2]] ?_; (with_reducible refine (dy_May.calls a0_0 _ _ l0_1 a0_2 false _ ?side1 ?side2 A2.out).mono ?_); (case side1 => exact kc_ (Kd.V_reads' HO0_1.out).2.2); (case side2 => exact (Kd.V_reads' HO0_1.out).2.1); rintro e w16 ⟨rfl, hb⟩; refine ⟨_, rfl, ?_⟩; have n0_ := Aside0.mk (Kd.V_below (by (with_reducible repeat (first | apply Kd.V_alloc | apply Kd.V_drewN | apply Kd.V_drew)); exact HO0_1.out) hb); have n1_ := kq_ BK165 hb; have n2_ := kq_ BK166 hb; have n3_ := bq_ HB hb; clear HO0_1; clear BK165; clear BK166; clear HB; have HO0_1 := n0_; have BK165 := n1_; have BK166 := n2_; have HB := n3_; clear n0_ n1_ n2_ n3_; (try clear hb); (try clear hb2); (try clear hk); (try clear hi); obtain ⟨hcz17_0, hcz17_1, hcz17_2, hfz17_0, hfz17_1, hfz17_2⟩ := c3_ BK165) | ((with_reducible refine gate_callee (f := 10) rfl ?_); refine gl_ (some 10) Tryd.func10 #[.agg #[.bool a0_0, .slice A0_1 l0_1.length c0_1], .int .i64 a0_2] ?_; (with_reducible refine (dy_Make.calls k a0_0 _ _ l0_1 a0_2 t168 t169 t172 _ ?side1 ?side2 A11.out ?sidet).mono ?_); (case sidet => exact Kd.C_below HTAB.out (bw_ HB.out)); (case side1 => exact kc_ (Kd.V_reads' HO0_1.out).2.2); (case side2 => exact (Kd.V_reads' HO0_1.out).2.1); rintro e w18 ⟨v170, rfl, ho0, hb⟩; refine ⟨_, rfl, ?_⟩; have n0_ := Aside0.mk (Kd.V_elder' (by (with_reducible repeat (first | apply Kd.V_alloc | apply Kd.V_drewN | apply Kd.V_drew)); exact HO0_1.out) (Kd.R_base ho0) hb); have n1_ := Aside0.mk (Kd.R_lower (Kd.R_newM (M := fun k_ => (w.heap.size ≤ k_)) ho0 (below_size (bw_ HB.out)) (fun k_ h_ => h_)) (below_size (bw_ HB.out))); have n2_ := kq_ BK165 hb; have n3_ := kq_ BK166 hb; have n4_ := bq_ HB hb; clear HO0_1; clear BK165; clear BK166; clear HB; have HO0_1 := n0_; have HO171 := n1_; have BK165 := n2_; have BK166 := n3_; have HB := n4_; clear n0_ n1_ n2_ n3_ n4_; (try clear hb); (try clear hb2); (try clear hk); (try clear hi); (try clear ho0); obtain ⟨hcz19_0, hcz19_1, hcz19_2, hfz19_0, hfz19_1, hfz19_2⟩ := c3_ BK166; obtain ⟨Ao20, co20, eo20⟩ := Kd.R_slice HO171.out; subst eo20))
  refine bodyPost_ret (results_cell_row rfl _ _ gb166 27 #[.bool t168, .slice Ao20 t169.length co20, .int .i64 t172] (0, 0) _ rfl (by refine kb_ ?_; refine bp_ #[.bool t168, .slice Ao20 t169.length co20, .int .i64 0] 2 ?_; refine bp_ #[.bool t168, .slice none 0 0, .int .i64 0] 1 ?_; refine bp_ #[.bool false, .slice none 0 0, .int .i64 0] 0 ?_; exact BK166.out) Tryd.underlying27 rfl (by kernel_rfl)) rfl ?_
  exact ⟨_, rf_, Kd.V_mono (Kd.R_V (kr_ (Kd.R_mono (Kd.R_far (p := ⟨gb166, 2, none⟩) (Kd.R_far (p := ⟨gb166, 1, none⟩) (Kd.R_far (p := ⟨gb166, 0, none⟩) (Kd.R_types HO171.out BK166.out (by decide)) (fun _ hk => hk.2) (.bool t168)) (fun _ hk => hk.2) (.slice Ao20 t169.length co20)) (fun _ hk => hk.2) (.int .i64 t172)) (fun _ hk => hk.1.1)))) (fun k_ hk => by first | exact ⟨(.inr (hk.1)), hk.2⟩ | exact (.inr (hk))), bw_ HB.out⟩

/-! ### bits_Add32: function 71 -/
set_option maxHeartbeats 8000000 in
set_option maxRecDepth 100000 in
theorem bits_Add32.calls (a0 : Int) (a1 : Int) (a2 : Int) (r1 : Int) (r2 : Int) (w : World) (h : bits_Add32.f a0 a1 a2 = some (r1, r2)) :
  Calls Tryd.prog 71 #[.int .u32 a0, .int .u32 a1, .int .u32 a2] w fun e w' => e = .returned (.tuple #[.int .u32 r1, .int .u32 r2]) ∧ Drawn0 w w' := by
 have H : (some ((IntKind.u64.wrap ((IntKind.u64.wrap ((IntKind.u64.wrap (a0)) + (IntKind.u64.wrap (a1)))) + (IntKind.u64.wrap (a2)))) % 4294967296, ((IntKind.u64.wrap ((IntKind.u64.wrap ((IntKind.u64.wrap (a0)) + (IntKind.u64.wrap (a1)))) + (IntKind.u64.wrap (a2)))) / 4294967296) % 4294967296)) = some (r1, r2) := h
 clear h
 simp only [Option.some.injEq, Prod.mk.injEq] at H
 obtain ⟨rfl, rfl⟩ := H
 go_enter Tryd.func71, Tryd.ntmps71
 go_wp2
 go_ret2
 exact ⟨by first | rfl | (simp; done) | (simp [*]; done), by repeat (first | exact Drawn0.refl _ | apply Drawn0.step)⟩

end Go.Proofs.YtaookeneeemfbaaDoor.PA
