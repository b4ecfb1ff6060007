-- Laid by this work's own program; Lean checks it.
import Derived.Test.YthlhogcnfaiphaaDoorPAx0
import Derived.Test.YthlhogcnfaiphaaDoorPAx2
import Derived.Test.YthlhogcnfaiphaaDoorPAx3
import Derived.Test.YthlhogcnfaiphaaDoorPAx7
namespace Go.Proofs.YthlhogcnfaiphaaDoor.PA
open Go.RowKit Go.Proofs.YthlhogcnfaiphaaDoorW.PrintWords Go.Proofs.YthlhogcnfaiphaaDoorW.PrintLast Go.Proofs.YthlhogcnfaiphaaDoorW.PrintMore
attribute [local go_sem] max2_int min2_int max_two min_two max_three min_three max_four min_four   -- for this text's walks alone
set_option linter.unusedVariables false
set_option linter.unusedSimpArgs false

attribute [local go_sem ↓ high] isSome_set_
/-! ### nat_Shr: function 36 -/
set_option maxHeartbeats 8000000 in
set_option maxRecDepth 100000 in
theorem nat_Shr.calls (k : Nat) (A0 : Option Addr) (c0 : Nat) (l0 : List Int) (a1 : Int) (r : List Int) (w : World) (hr0 : Kd.C (Kd.int .u32) w A0 l0.length l0) (hc0 : l0.length ≤ c0) (h : nat_Shr.f k l0 a1 = some r) :
  Calls Tryd.prog 36 #[.slice A0 l0.length c0, .int .i64 a1] w fun e w' => ∃ v0_ : Value, e = .returned (v0_) ∧ Kd.R (Kd.int .u32) 44 w' w.heap.size (fun _ => True) v0_ r ∧ Below w.heap.size w w' := by
 have HR0 := Aside0.mk hr0
 have HC0 := Aside0.mk hc0
 clear hr0 hc0
 have HB := Aside0.mk (Below.refl w.heap.size w)
 have H : ((nat_cut.f k l0).bind fun t341 => (if a1 < 1 then ((slices_Clone_uint32_uint32.f t341).bind fun t344 => (some t344)) else (if a1 ≥ (wrap64 (32 * (t341.length : Int))) then (some ([] : List Int)) else (if 0 ≤ (wrap64 ((t341.length : Int) - (wrap64 (Int.tdiv a1 32)))) then (if (wrap64 ((t341.length : Int) - (wrap64 (Int.tdiv a1 32))) : Int).toNat ≤ 70368744177664 then ((some (List.replicate (wrap64 ((t341.length : Int) - (wrap64 (Int.tdiv a1 32))) : Int).toNat 0 : List Int)).bind fun y347 => (nat_Shr.l0 k t341 (wrap64 (Int.tdiv a1 32)) (Int.tmod a1 32) y347 (y347.length : Int) 0)) else (none)) else (none))))) = some r := h
 clear h
 replace H := Option.bind_eq_some_iff.mp H
 obtain ⟨t341, A30, H⟩ := H
 (try dsimp only at H)
 have A3 := Aside0.mk A30
 clear A30
 by_cases c4 : a1 < 1
 ·rw [if_pos c4] at H
  have c4b0 : decide (a1 < 1) = true := decide_eq_true c4
  clear c4
  replace H := Option.bind_eq_some_iff.mp H
  obtain ⟨t344, A50, H⟩ := H
  (try dsimp only at H)
  have A5 := Aside0.mk A50
  clear A50
  obtain rfl := Option.some.inj H
  go_enter Tryd.func36, Tryd.ntmps36
  go_wp2_with (first | ((with_reducible refine gate_callee (f := 50) rfl ?_); refine gl_ (some 11) Tryd.func50 #[.slice A0 l0.length c0] ?_; (with_reducible refine (nat_cut.calls k (fun k_ => k_ < w.heap.size) _ _ l0 t341 _ ?side1 A3.out).mono ?_); (case side1 => exact Kd.V_mk HC0.out (Kd.F_below (Kd.C_F (Kd.heap_int .u32) HR0.out) (bw_ HB.out))); rintro e w6 ⟨v342, rfl, ho0, hb⟩; refine ⟨_, rfl, ?_⟩; have HO343 := Aside0.mk (Kd.V_lower (Kd.V_mono (ok' := fun k_ => True) ho0 (fun k_ hk_ => trivial)) (below_size (bw_ HB.out))); replace HB := bq_ HB hb; (try clear hb); (try clear hb2); (try clear hk); (try clear hi); (try clear ho0); obtain ⟨Ao7, co7, eo7⟩ := Kd.V_slice HO343.out; subst eo7) | ((with_reducible refine gate_callee (f := 51) rfl ?_); refine gl_ (some 16) Tryd.func51 #[.slice Ao7 t341.length co7] ?_; (with_reducible refine (slices_Clone_uint32_uint32.calls _ _ t341 t344 _ ?side1 ?side2 A5.out).mono ?_); (case side1 => exact kc_ (Kd.V_reads' HO343.out).2.2); (case side2 => exact (Kd.V_reads' HO343.out).2.1); rintro e w8 ⟨v345, rfl, ho0, hb⟩; refine ⟨_, rfl, ?_⟩; have n0_ := Aside0.mk (Kd.V_elder' (by (with_reducible repeat (first | apply Kd.V_alloc | apply Kd.V_drewN | apply Kd.V_drew)); exact HO343.out) (Kd.R_base ho0) hb); have n1_ := Aside0.mk (Kd.R_lower ho0 (below_size (bw_ HB.out))); have n2_ := bq_ HB hb; clear HO343; clear HB; have HO343 := n0_; have HO346 := n1_; have HB := n2_; clear n0_ n1_ n2_; (try clear hb); (try clear hb2); (try clear hk); (try clear hi); (try clear ho0)))
  go_ret
  exact ⟨_, rf_, by (with_reducible repeat (first | apply Kd.R_alloc | apply Kd.R_drewN | apply Kd.R_drew)); exact HO346.out, bw_ HB.out⟩
 ·rw [if_neg c4] at H
  have c4b0 : decide (a1 < 1) = false := decide_eq_false c4
  clear c4
  by_cases c9 : a1 ≥ (wrap64 (32 * (t341.length : Int)))
  ·rw [if_pos c9] at H
   have c9b0 : decide ((wrap64 (32 * (t341.length : Int))) ≤ a1) = true := decide_eq_true c9
   clear c9
   obtain rfl := Option.some.inj H
   go_enter Tryd.func36, Tryd.ntmps36
   go_wp2_with (first | ((with_reducible refine gate_callee (f := 50) rfl ?_); refine gl_ (some 11) Tryd.func50 #[.slice A0 l0.length c0] ?_; (with_reducible refine (nat_cut.calls k (fun k_ => k_ < w.heap.size) _ _ l0 t341 _ ?side1 A3.out).mono ?_); (case side1 => exact Kd.V_mk HC0.out (Kd.F_below (Kd.C_F (Kd.heap_int .u32) HR0.out) (bw_ HB.out))); rintro e w10 ⟨v342, rfl, ho0, hb⟩; refine ⟨_, rfl, ?_⟩; have HO343 := Aside0.mk (Kd.V_lower (Kd.V_mono (ok' := fun k_ => True) ho0 (fun k_ hk_ => trivial)) (below_size (bw_ HB.out))); replace HB := bq_ HB hb; (try clear hb); (try clear hb2); (try clear hk); (try clear hi); (try clear ho0); obtain ⟨Ao11, co11, eo11⟩ := Kd.V_slice HO343.out; subst eo11))
   go_ret
   exact ⟨_, rf_, by first | exact Kd.R_nil _ _ _ _ _ | exact Kd.N_nil _ _ _ _ _ | exact Kd.V_nil _ _ _ _ _ | exact Kd.Q_nil _ _ _ _ _ | exact Kd.S_nil _ _ _ _ _, bw_ HB.out⟩
  ·rw [if_neg c9] at H
   have c9b0 : decide ((wrap64 (32 * (t341.length : Int))) ≤ a1) = false := decide_eq_false c9
   clear c9
   obtain ⟨ji12, hji12⟩ : ∃ j_ : Int, (wrap64 ((t341.length : Int) - (wrap64 (Int.tdiv a1 32)))) = j_ := ⟨_, rfl⟩
   (first | rw [hji12] at H | simp only [hji12] at H)
   (try rw [hji12] at A3)
   have hji12w : (IntKind.i64.wrap ((t341.length : Int) - (wrap64 (Int.tdiv a1 32)))) = ji12 := (i64_w _).trans hji12
   by_cases c13 : 0 ≤ (ji12)
   ·rw [if_pos c13] at H
    have c13b0 := eq_true c13
    have c13b1 : decide (0 ≤ (ji12)) = true := decide_eq_true c13
    clear c13
    by_cases c14 : (ji12 : Int).toNat ≤ 70368744177664
    ·rw [if_pos c14] at H
     have c14b0 := eq_true c14
     have c14b1 : decide ((ji12 : Int).toNat ≤ 70368744177664) = true := decide_eq_true c14
     clear c14
     obtain ⟨y347, hy347⟩ : ∃ y_ : List Int, y_ = (List.replicate (ji12 : Int).toNat 0) := ⟨_, rfl⟩
     replace H : (nat_Shr.l0 k t341 (wrap64 (Int.tdiv a1 32)) (Int.tmod a1 32) y347 (y347.length : Int) 0) = some r := by first | (rw [hy347]; with_reducible exact H) | (have H2_ := (Option.bind_some _ _).symm.trans H; rw [hy347]; with_reducible exact H2_) | (have H2_ := (Option.bind_some _ _).symm.trans H; with_reducible exact H2_) | with_reducible exact H | (rw [hy347]; exact H) | exact H
     have Ny347 := Aside0.mk hy347
     clear hy347
     have H' := Aside0.mk H
     clear H
     go_enter Tryd.func36, Tryd.ntmps36
     go_wp2_with (first | ((with_reducible refine gate_callee (f := 50) rfl ?_); refine gl_ (some 11) Tryd.func50 #[.slice A0 l0.length c0] ?_; (with_reducible refine (nat_cut.calls k (fun k_ => k_ < w.heap.size) _ _ l0 t341 _ ?side1 A3.out).mono ?_); (case side1 => exact Kd.V_mk HC0.out (Kd.F_below (Kd.C_F (Kd.heap_int .u32) HR0.out) (bw_ HB.out))); rintro e w15 ⟨v342, rfl, ho0, hb⟩; refine ⟨_, rfl, ?_⟩; have HO343 := Aside0.mk (Kd.V_lower (Kd.V_mono (ok' := fun k_ => True) ho0 (fun k_ hk_ => trivial)) (below_size (bw_ HB.out))); replace HB := bq_ HB hb; (try clear hb); (try clear hb2); (try clear hk); (try clear hi); (try clear ho0); obtain ⟨Ao16, co16, eo16⟩ := Kd.V_slice HO343.out; subst eo16) | ((with_reducible refine gate_dst (N := 31) rfl ?_); refine Kd.R_make (Kd.int .u32) _ 44 rfl (N := 31) rfl 27 _ _ rfl ji12 rfl rfl Tryd.underlying27 (.int .u32 0) 4 info44 rfl (by decide) (by omega) 0 (ok := fun _ => True) (okp := fun _ => True) rfl (fun _ hk => hk) trivial (of_decide_eq_true (by first | (with_reducible assumption) | assumption)) (Nat.le_trans (Nat.mul_le_mul_right _ (of_decide_eq_true (by first | (with_reducible assumption) | assumption) : ji12.toNat ≤ 70368744177664)) (by omega)) (Below.refl _ _) (Nat.le_refl _) ?_; intro v348 w17 ho18 hb hg_ hnew_; clear hg_ hnew_; (first | rw [← Ny347.out] at ho18 | (simp only [Int.reduceToNat] at ho18; rw [← Ny347.out] at ho18)); have n0_ := Aside0.mk (Kd.V_elder' (by (with_reducible repeat (first | apply Kd.V_alloc | apply Kd.V_drewN | apply Kd.V_drew)); exact HO343.out) (Kd.R_base ho18) hb); have n1_ := Aside0.mk (Kd.R_lower ho18 (below_size (bw_ HB.out))); have n2_ := bq_ HB hb; clear HO343; clear HB; have HO343 := n0_; have HO349 := n1_; have HB := n2_; clear n0_ n1_ n2_; clear hb ho18; obtain ⟨Ao19, co19, eo19⟩ := Kd.R_slice HO349.out; subst eo19))
     go_loopg [34] k (fun kq v34 w' => ∃ (x7_1 : List Int) (x34_1 : Int), v34 = .int .i64 x34_1 ∧ Aside0 (nat_Shr.l0 kq t341 (wrap64 (Int.tdiv a1 32)) (Int.tmod a1 32) x7_1 (y347.length : Int) x34_1 = some r) ∧ Aside0 (kq ≤ k) ∧ Aside0 (Kd.V (Kd.int .u32) 44 w' w.heap.size (fun k_ => some k_ ≠ ((.slice Ao19 y347.length co19) : Value).ownBlock) (.slice Ao16 t341.length co16) t341) ∧ Aside0 (Kd.R (Kd.int .u32) 44 w' w.heap.size (fun _ => True) (.slice Ao19 y347.length co19) x7_1) ∧ Aside0 (Below w.heap.size w w'))
     case atStart => exact ⟨(y347), (0), (by first | rfl | (simp; done) | (simp [*]; done)), H', ⟨Nat.le_refl _⟩, ⟨by (with_reducible repeat (first | apply Kd.V_alloc | apply Kd.V_drewN | apply Kd.V_drew)); exact Kd.V_mono HO343.out (fun _ hk => hk.2)⟩, ⟨by (with_reducible repeat (first | apply Kd.R_alloc | apply Kd.R_drewN | apply Kd.R_drew)); exact HO349.out⟩, ⟨bw_ HB.out⟩⟩
     case round =>
      clear H'
      try clear c1
      try clear p2
      try clear c3
      try clear c4
      try clear c4b0
      try clear c5
      try clear p6
      try clear c9
      try clear c9b0
      try clear c13
      try clear c13b0
      try clear c13b1
      try clear c14
      try clear c14b0
      try clear c14b1
      obtain ⟨x7_1, x34_1, rfl, HA, HK1, HO_0, HO_7, HB⟩ := hrel
      have hl7_1 := (Kd.R_reads' HO_7.out).1
      rw [hl7_1] at HO_7
      (try simp only [hl7_1])
      (try simp only [hl7_1] at HO_0)
      cases gk with
      | zero => exact absurd HA.out (by simp [nat_Shr.l0])
      | succ k1 =>
       have H := HA.out
       clear HA
       simp only [nat_Shr.l0] at H
       by_cases c20 : x34_1 < (y347.length : Int)
       ·rw [if_pos c20] at H
        have c20b0 : decide (x34_1 < (y347.length : Int)) = true := decide_eq_true c20
        (try (have c20b0r := c20b0; rw [hl7_1] at c20b0r))
        clear c20
        obtain ⟨ji21, hji21⟩ : ∃ j_ : Int, (wrap64 (x34_1 + (wrap64 (Int.tdiv a1 32)))) = j_ := ⟨_, rfl⟩
        (first | rw [hji21] at H | simp only [hji21] at H)
        have hji21w : (IntKind.i64.wrap (x34_1 + (wrap64 (Int.tdiv a1 32)))) = ji21 := (i64_w _).trans hji21
        by_cases c22 : 0 ≤ (ji21)
        ·rw [if_pos c22] at H
         have c22b0 : decide (0 ≤ (ji21)) = true := decide_eq_true c22
         (try (have c22b0r := c22b0; rw [hl7_1] at c22b0r))
         clear c22
         by_cases c23 : (ji21) < (t341.length : Int)
         ·rw [if_pos c23] at H
          have c23b0 : decide ((ji21) < (t341.length : Int)) = true := decide_eq_true c23
          (try (have c23b0r := c23b0; rw [hl7_1] at c23b0r))
          clear c23
          by_cases c24 : (wrap64 ((ji21) + 1)) < (t341.length : Int)
          ·rw [if_pos c24] at H
           have c24b0 : decide ((wrap64 ((ji21) + 1)) < (t341.length : Int)) = true := decide_eq_true c24
           (try (have c24b0r := c24b0; rw [hl7_1] at c24b0r))
           clear c24
           obtain ⟨ji25, hji25⟩ : ∃ j_ : Int, (wrap64 ((ji21) + 1)) = j_ := ⟨_, rfl⟩
           (first | rw [hji25] at H | simp only [hji25] at H)
           (try rw [hji25] at c24b0)
           have hji25w : (IntKind.i64.wrap ((ji21) + 1)) = ji25 := (i64_w _).trans hji25
           by_cases c26 : 0 ≤ (ji25)
           ·rw [if_pos c26] at H
            have c26b0 : decide (0 ≤ (ji25)) = true := decide_eq_true c26
            (try (have c26b0r := c26b0; rw [hl7_1] at c26b0r))
            clear c26
            obtain ⟨ji27, hji27⟩ : ∃ j_ : Int, (Int.tmod a1 32) = j_ := ⟨_, rfl⟩
            (first | rw [hji27] at H | simp only [hji27] at H)
            by_cases c28 : 0 ≤ (ji27)
            ·rw [if_pos c28] at H
             have c28b0 := eq_true c28
             have c28b1 : decide (0 ≤ (ji27)) = true := decide_eq_true c28
             (try (have c28b1r := c28b1; rw [hl7_1] at c28b1r))
             clear c28
             obtain ⟨ji29, hji29⟩ : ∃ j_ : Int, (shr .u64 (Go.bits .or .u64 (IntKind.u64.wrap (rd t341 (ji21))) (IntKind.u64.wrap ((IntKind.u64.wrap (rd t341 (ji25))) * 4294967296))) (ji27)) = j_ := ⟨_, rfl⟩
             (first | rw [hji29] at H | simp only [hji29] at H)
             have hji29_ : ((Go.bits .or .u64 (IntKind.u64.wrap (rd t341 (ji21))) (IntKind.u64.wrap ((IntKind.u64.wrap (rd t341 (ji25))) * 4294967296))) / 2 ^ min (ji27).toNat 64) = ji29 := hji29
             have hji29z : (ji27) ≤ 64 → ((Go.bits .or .u64 (IntKind.u64.wrap (rd t341 (ji21))) (IntKind.u64.wrap ((IntKind.u64.wrap (rd t341 (ji25))) * 4294967296))) / 2 ^ (ji27).toNat) = ji29 := shr_small hji29
             by_cases c30 : 0 ≤ x34_1
             ·rw [if_pos c30] at H
              have c30b0 : decide (0 ≤ x34_1) = true := decide_eq_true c30
              (try (have c30b0r := c30b0; rw [hl7_1] at c30b0r))
              clear c30
              by_cases c31 : x34_1 < (x7_1.length : Int)
              ·rw [if_pos c31] at H
               have c31b0 : decide (x34_1 < (x7_1.length : Int)) = true := decide_eq_true c31
               (try (have c31b0r := c31b0; rw [hl7_1] at c31b0r))
               clear c31
               obtain ⟨y352, hy352⟩ : ∃ y_ : List Int, y_ = (x7_1.set (x34_1 : Int).toNat ((ji29) % 4294967296)) := ⟨_, rfl⟩
               replace H : (nat_Shr.l0 k1 t341 (wrap64 (Int.tdiv a1 32)) (ji27) y352 (y347.length : Int) (wrap64 (x34_1 + 1))) = some r := by first | (rw [hy352]; with_reducible exact H) | (have H2_ := (Option.bind_some _ _).symm.trans H; rw [hy352]; with_reducible exact H2_) | (have H2_ := (Option.bind_some _ _).symm.trans H; with_reducible exact H2_) | with_reducible exact H | (rw [hy352]; exact H) | exact H
               have Ny352 := Aside0.mk hy352
               clear hy352
               have H' := Aside0.mk H
               clear H
               have p350 : 0 ≤ ((ji21) : Int) := of_decide_eq_true (by first | (with_reducible assumption) | assumption)
               have q350 : (ji21) < (t341.length : Int) := of_decide_eq_true (by first | (with_reducible assumption) | assumption)
               obtain ⟨ad350, e350, hx350_0⟩ := Kd.at_int (Kd.V_reads' HO_0.out).2.2 (ji21) p350 q350
               cases e350
               replace p350 := eq_true p350
               replace q350 := eq_true q350
               have p351 : 0 ≤ ((ji25) : Int) := of_decide_eq_true (by first | (with_reducible assumption) | assumption)
               have q351 : (ji25) < (t341.length : Int) := of_decide_eq_true (by first | (with_reducible assumption) | assumption)
               obtain ⟨ad351, e351, hx351_0⟩ := Kd.at_int (Kd.V_reads' HO_0.out).2.2 (ji25) p351 q351
               obtain rfl : ad350 = ad351 := (by injection e351)
               replace p351 := eq_true p351
               replace q351 := eq_true q351
               have p32 : 0 ≤ (x34_1 : Int) := of_decide_eq_true (by first | (with_reducible assumption) | assumption)
               have q32 : (x34_1 : Int) < ((x7_1.length : Int) : Int) := of_decide_eq_true (by first | (with_reducible assumption) | assumption)
               obtain ⟨go32, co32, eo32, gb32, gl32, cl32, HG32⟩ := Kd.R_form HO_7.out (by omega)
               (first | cases eo32 | (injection eo32 with ea_ en_ ec_; (first | subst ea_ | (injection ea_ with ea_; subst ea_)); subst ec_; clear en_))
               have GB32 := Aside0.mk gb32
               have GG32 := Aside0.mk HG32
               clear gb32 gl32 HG32
               obtain ⟨hx32_0, hf32_0⟩ := Kd.R_celln 0 HO_7.out (x34_1 : Int) p32 q32
               replace p32 := eq_true p32
               replace q32 := eq_true q32
               have HP33 := Kd.R_putg HO_7.out (x34_1 : Int) ((ji29) % 4294967296)
               go_wp2_with (first | ((with_reducible refine gate_store (t := 44) (p := 68) rfl ?_); refine store_event (t := 44) (p := 68) (v := ?vo_w34) (w1 := (wr.setCell ⟨go32, (x34_1 : Int).toNat, none⟩ (.int .u32 ((ji29) % 4294967296)))) ?hg ?ho ?hn ?hr ?_; (case ho => rfl); (case hg => rfl); (case hn => rfl); (case hr => first | (go_simp; done) | (go_simp; rfl)); intro w34 hw; have hg : wr.grownBy w34 (some go32) := (by rw [hw]; exact HP33.2); have hp_ : Kd.R (Kd.int .u32) 44 w34 w.heap.size (fun _ => True) (.slice (some ⟨go32, 0, none⟩) x7_1.length co19) y352 := (by rw [hw, Ny352.out]; exact HP33.1); clear HP33; have n0_ := Aside0.mk (Kd.V_afterv (v := (.slice (some ⟨go32, 0, none⟩) x7_1.length co19)) (v1 := (.slice (some ⟨go32, 0, none⟩) x7_1.length co19)) (ok := (fun _ => True)) (by (with_reducible repeat (first | apply Kd.V_alloc | apply Kd.V_drewN | apply Kd.V_drew)); exact Kd.V_mono HO_0.out (fun _ hk => by first | exact ⟨trivial, hk⟩ | (simp only [ob_map] at hk ⊢; exact ⟨trivial, hk⟩))) hg (.inl rfl)); have n1_ := Aside0.mk (hp_); have n2_ := Aside0.mk ((by rw [hw]; exact below_set (HB.out) GB32.out : Below w.heap.size w w34)); clear HO_0; clear HO_7; clear HB; have HO_0 := n0_; have HO_7 := n1_; have HB := n2_; clear n0_ n1_ n2_; clear hg hw hp_))
               (try simp only [← hl7_1])
               (try subst hji27)
               go_roundg k1
               case measure => have := HK1.out; omega
               case rel => exact ⟨(y352), (wrap64 (x34_1 + 1)), (by first | rfl | (simp; done) | (simp [*]; done)), H', ⟨by have := HK1.out; omega⟩, ⟨by (try simp only [hl7_1]); (with_reducible repeat (first | apply Kd.V_alloc | apply Kd.V_drewN | apply Kd.V_drew)); exact Kd.V_mono HO_0.out (fun _ hk => hk.2)⟩, ⟨by (try simp only [hl7_1]); (with_reducible repeat (first | apply Kd.R_alloc | apply Kd.R_drewN | apply Kd.R_drew)); exact HO_7.out⟩, ⟨bw_ HB.out⟩⟩
              ·rw [if_neg c31] at H
               exact absurd H (by simp)
             ·rw [if_neg c30] at H
              exact absurd H (by simp)
            ·rw [if_neg c28] at H
             exact absurd H (by simp)
           ·rw [if_neg c26] at H
            exact absurd H (by simp)
          ·rw [if_neg c24] at H
           have c24b0 : decide ((wrap64 ((ji21) + 1)) < (t341.length : Int)) = false := decide_eq_false c24
           (try (have c24b0r := c24b0; rw [hl7_1] at c24b0r))
           clear c24
           obtain ⟨ji35, hji35⟩ : ∃ j_ : Int, (Int.tmod a1 32) = j_ := ⟨_, rfl⟩
           (first | rw [hji35] at H | simp only [hji35] at H)
           by_cases c36 : 0 ≤ (ji35)
           ·rw [if_pos c36] at H
            have c36b0 := eq_true c36
            have c36b1 : decide (0 ≤ (ji35)) = true := decide_eq_true c36
            (try (have c36b1r := c36b1; rw [hl7_1] at c36b1r))
            clear c36
            obtain ⟨ji37, hji37⟩ : ∃ j_ : Int, (shr .u64 (IntKind.u64.wrap (rd t341 (ji21))) (ji35)) = j_ := ⟨_, rfl⟩
            (first | rw [hji37] at H | simp only [hji37] at H)
            have hji37_ : ((IntKind.u64.wrap (rd t341 (ji21))) / 2 ^ min (ji35).toNat 64) = ji37 := hji37
            have hji37z : (ji35) ≤ 64 → ((IntKind.u64.wrap (rd t341 (ji21))) / 2 ^ (ji35).toNat) = ji37 := shr_small hji37
            by_cases c38 : 0 ≤ x34_1
            ·rw [if_pos c38] at H
             have c38b0 : decide (0 ≤ x34_1) = true := decide_eq_true c38
             (try (have c38b0r := c38b0; rw [hl7_1] at c38b0r))
             clear c38
             by_cases c39 : x34_1 < (x7_1.length : Int)
             ·rw [if_pos c39] at H
              have c39b0 : decide (x34_1 < (x7_1.length : Int)) = true := decide_eq_true c39
              (try (have c39b0r := c39b0; rw [hl7_1] at c39b0r))
              clear c39
              obtain ⟨y353, hy353⟩ : ∃ y_ : List Int, y_ = (x7_1.set (x34_1 : Int).toNat ((ji37) % 4294967296)) := ⟨_, rfl⟩
              replace H : (nat_Shr.l0 k1 t341 (wrap64 (Int.tdiv a1 32)) (ji35) y353 (y347.length : Int) (wrap64 (x34_1 + 1))) = some r := by first | (rw [hy353]; with_reducible exact H) | (have H2_ := (Option.bind_some _ _).symm.trans H; rw [hy353]; with_reducible exact H2_) | (have H2_ := (Option.bind_some _ _).symm.trans H; with_reducible exact H2_) | with_reducible exact H | (rw [hy353]; exact H) | exact H
              have Ny353 := Aside0.mk hy353
              clear hy353
              have H' := Aside0.mk H
              clear H
              have p350 : 0 ≤ ((ji21) : Int) := of_decide_eq_true (by first | (with_reducible assumption) | assumption)
              have q350 : (ji21) < (t341.length : Int) := of_decide_eq_true (by first | (with_reducible assumption) | assumption)
              obtain ⟨ad350, e350, hx350_0⟩ := Kd.at_int (Kd.V_reads' HO_0.out).2.2 (ji21) p350 q350
              cases e350
              replace p350 := eq_true p350
              replace q350 := eq_true q350
              have p40 : 0 ≤ (x34_1 : Int) := of_decide_eq_true (by first | (with_reducible assumption) | assumption)
              have q40 : (x34_1 : Int) < ((x7_1.length : Int) : Int) := of_decide_eq_true (by first | (with_reducible assumption) | assumption)
              obtain ⟨go40, co40, eo40, gb40, gl40, cl40, HG40⟩ := Kd.R_form HO_7.out (by omega)
              (first | cases eo40 | (injection eo40 with ea_ en_ ec_; (first | subst ea_ | (injection ea_ with ea_; subst ea_)); subst ec_; clear en_))
              have GB40 := Aside0.mk gb40
              have GG40 := Aside0.mk HG40
              clear gb40 gl40 HG40
              obtain ⟨hx40_0, hf40_0⟩ := Kd.R_celln 0 HO_7.out (x34_1 : Int) p40 q40
              replace p40 := eq_true p40
              replace q40 := eq_true q40
              have HP41 := Kd.R_putg HO_7.out (x34_1 : Int) ((ji37) % 4294967296)
              go_wp2_with (first | ((with_reducible refine gate_store (t := 44) (p := 68) rfl ?_); refine store_event (t := 44) (p := 68) (v := ?vo_w42) (w1 := (wr.setCell ⟨go40, (x34_1 : Int).toNat, none⟩ (.int .u32 ((ji37) % 4294967296)))) ?hg ?ho ?hn ?hr ?_; (case ho => rfl); (case hg => rfl); (case hn => rfl); (case hr => first | (go_simp; done) | (go_simp; rfl)); intro w42 hw; have hg : wr.grownBy w42 (some go40) := (by rw [hw]; exact HP41.2); have hp_ : Kd.R (Kd.int .u32) 44 w42 w.heap.size (fun _ => True) (.slice (some ⟨go40, 0, none⟩) x7_1.length co19) y353 := (by rw [hw, Ny353.out]; exact HP41.1); clear HP41; have n0_ := Aside0.mk (Kd.V_afterv (v := (.slice (some ⟨go40, 0, none⟩) x7_1.length co19)) (v1 := (.slice (some ⟨go40, 0, none⟩) x7_1.length co19)) (ok := (fun _ => True)) (by (with_reducible repeat (first | apply Kd.V_alloc | apply Kd.V_drewN | apply Kd.V_drew)); exact Kd.V_mono HO_0.out (fun _ hk => by first | exact ⟨trivial, hk⟩ | (simp only [ob_map] at hk ⊢; exact ⟨trivial, hk⟩))) hg (.inl rfl)); have n1_ := Aside0.mk (hp_); have n2_ := Aside0.mk ((by rw [hw]; exact below_set (HB.out) GB40.out : Below w.heap.size w w42)); clear HO_0; clear HO_7; clear HB; have HO_0 := n0_; have HO_7 := n1_; have HB := n2_; clear n0_ n1_ n2_; clear hg hw hp_))
              (try simp only [← hl7_1])
              (try subst hji35)
              go_roundg k1
              case measure => have := HK1.out; omega
              case rel => exact ⟨(y353), (wrap64 (x34_1 + 1)), (by first | rfl | (simp; done) | (simp [*]; done)), H', ⟨by have := HK1.out; omega⟩, ⟨by (try simp only [hl7_1]); (with_reducible repeat (first | apply Kd.V_alloc | apply Kd.V_drewN | apply Kd.V_drew)); exact Kd.V_mono HO_0.out (fun _ hk => hk.2)⟩, ⟨by (try simp only [hl7_1]); (with_reducible repeat (first | apply Kd.R_alloc | apply Kd.R_drewN | apply Kd.R_drew)); exact HO_7.out⟩, ⟨bw_ HB.out⟩⟩
             ·rw [if_neg c39] at H
              exact absurd H (by simp)
            ·rw [if_neg c38] at H
             exact absurd H (by simp)
           ·rw [if_neg c36] at H
            exact absurd H (by simp)
         ·rw [if_neg c23] at H
          exact absurd H (by simp)
        ·rw [if_neg c22] at H
         exact absurd H (by simp)
       ·rw [if_neg c20] at H
        have c20b0 : decide (x34_1 < (y347.length : Int)) = false := decide_eq_false c20
        (try (have c20b0r := c20b0; rw [hl7_1] at c20b0r))
        clear c20
        replace H := Option.bind_eq_some_iff.mp H
        obtain ⟨t354, A430, H⟩ := H
        (try dsimp only at H)
        have A43 := Aside0.mk A430
        clear A430
        obtain rfl := Option.some.inj H
        go_wp2_with (first | ((with_reducible refine gate_callee (f := 50) rfl ?_); refine gl_ (some 71) Tryd.func50 #[.slice Ao19 x7_1.length co19] ?_; (with_reducible refine (nat_cut_own.calls k1 (fun k_ => some k_ = (.slice Ao19 x7_1.length co19 : Value).ownBlock) (.slice Ao19 x7_1.length co19) x7_1 t354 w _ ?side1 ?side2 A43.out).mono ?_); (case side1 => repeat (first | (with_reducible first | exact HB.out | apply below_alloc | apply pw_below_drewN | apply below_drew1) | exact HB.out)); (case side2 => exact Kd.R_tight rfl HO_7.out); rintro e w44 ⟨v355, rfl, ho0, hb, hkp⟩; refine ⟨_, rfl, ?_⟩; have HO356 := Aside0.mk (Kd.R_mono (ok' := fun k_ => True) ho0 (fun k_ hk_ => trivial)); replace HO_0 := Aside0.mk (Kd.V_mono (ok' := fun k_ => some k_ ≠ (v355 : Value).ownBlock) (Kd.V_keptB (HO_0.out) hkp (fun k_ hk_ hs_ => (hk_) hs_)) (fun k_ hk_ => fun e_ => Or.elim (ho0.1 k_ e_.symm) (fun hs_ => hk_.2.1 hs_) (fun hn_ => Nat.not_le.2 hk_.2.2 hn_))); replace HB := Aside0.mk (hb); clear HO_7; (try clear hb); (try clear hkp); (try clear ho0)))
        go_ret
        exact ⟨_, by first | rfl | (simp [errW_none, errW_some] <;> rfl) | (simp only [← hji12]; first | rfl | (simp [errW_none, errW_some] <;> rfl)) | (simp [*, errW_none, errW_some] <;> rfl), by (with_reducible repeat (first | apply Kd.R_alloc | apply Kd.R_drewN | apply Kd.R_drew)); exact HO356.out, bw_ HB.out⟩
    ·rw [if_neg c14] at H
     exact absurd H (by simp)
   ·rw [if_neg c13] at H
    exact absurd H (by simp)

/-! ### dy_Make: function 16 -/
theorem dy_Make.tab6 : rtab .any (opsOf Tryd.f16 6) = dy_Make.T6 := by kernel_rfl
theorem dy_Make.bits6 : waitsOk dy_Make.T6.2 dy_Make.B6 = true := by kernel_rfl
set_option maxHeartbeats 8000000 in
set_option maxRecDepth 100000 in
theorem dy_Make.calls (k : Nat) (a0_0 : Bool) (A0_1 : Option Addr) (c0_1 : Nat) (l0_1 : List Int) (a1 : Int) (r1 : Bool) (r2 : List Int) (r3 : Int) (w : World) (hr0_1 : Kd.C (Kd.int .u32) w A0_1 l0_1.length l0_1) (hc0_1 : l0_1.length ≤ c0_1) (h : dy_Make.f k a0_0 l0_1 a1 = some (r1, r2, r3)) (htab_ : Kd.C (Kd.int .u8) w (some ⟨0, 0, none⟩) 32 tz32tab) :
  Calls Tryd.prog 16 #[.agg #[.bool a0_0, .slice A0_1 l0_1.length c0_1], .int .i64 a1] w fun e w' => ∃ v1_ : Value, e = .returned (.agg #[.bool r1, v1_, .int .i64 r3]) ∧ Kd.R (Kd.int .u32) 44 w' w.heap.size (fun _ => True) v1_ r2 ∧ Below w.heap.size w w' := by
 have HTAB := Aside0.mk htab_
 clear htab_
 have hu29 := Tryd.underlying29
 have hu31 := Tryd.underlying31
 have HR0_1 := Aside0.mk hr0_1
 have HC0_1 := Aside0.mk hc0_1
 clear hr0_1 hc0_1
 have HB := Aside0.mk (Below.refl w.heap.size w)
 have H : ((whole_Sign.f k a0_0 l0_1).bind fun t359 => (if t359 = 0 then (dy_Make.j0 k a1 true a0_0 l0_1) else ((dy_within.f a1).bind fun t360 => (dy_Make.j0 k a1 (!t360) a0_0 l0_1)))) = some (r1, r2, r3) := h
 clear h
 have HC3 := Aside0.mk H
 clear H
 go_enter Tryd.func16, Tryd.ntmps16
 go_upto_region 1 with (first | ((with_reducible refine gate_dst (N := 2) rfl ?_); refine bx_ 2 #[.bool a0_0, .slice A0_1 l0_1.length c0_1] 29 ?_; intro gb357 hg w4 hbox hb; have BK357 := Aside0.mk (hbox); have GW357 := ge_ hg HB; have GE357 := ge_ hg HB; replace HB := bq_ HB hb; clear hb hbox hg) | ((with_reducible refine gate_dst (N := 4) rfl ?_); refine bx_ 4 #[.bool false, .slice none 0 0, .int .i64 0] 31 ?_; intro gb358 hg w5 hbox hb; have BK358 := Aside0.mk (hbox); have GW358 := ge_ hg HB; have GE358 := ge_ hg HB; have NB357_358 := nb_ hg BK357; have NB358_357 := nc_ hg BK357; replace BK357 := kq_ BK357 hb; replace HB := bq_ HB hb; clear hb hbox hg))
 (try simp only [Act.put, List.setIfInBounds_toArray, List.set_cons_zero, List.set_cons_succ])
 go_cut [13] (fun v13 wc => ∃ (kq : Nat) (x13_2 : Bool), v13 = .bool x13_2 ∧ Aside0 (dy_Make.j0 kq a1 x13_2 a0_0 l0_1 = some (r1, r2, r3)) ∧ Aside0 (kq ≤ k) ∧ Aside0 (wc.heap[gb357]? = some (.cells #[.bool a0_0, (.slice A0_1 l0_1.length c0_1)] 29 (0, 0))) ∧ Aside0 (wc.heap[gb358]? = some (.cells #[.bool false, (.slice none 0 0), .int .i64 0] 31 (0, 0))) ∧ Aside0 (Below w.heap.size w wc))
 case first =>
  have H := HC3.out
  clear HC3
  replace H := Option.bind_eq_some_iff.mp H
  obtain ⟨t359, A60, H⟩ := H
  (try dsimp only at H)
  have A6 := Aside0.mk A60
  clear A60
  by_cases c7 : t359 = 0
  ·rw [if_pos c7] at H
   have c7b0 : (t359 == 0) = true := beq_iff_eq.mpr c7
   have c7b1 : (t359 != 0) = false := bne_eq_false_iff_eq.mpr c7
   clear c7
   (first | rw [c7b0] | (simp only [i64_w, i32_w]; rw [c7b0]) | skip)
   have H' := Aside0.mk H
   clear H
   have hnb8 := NB357_358.out
   have hnc8 := NB358_357.out
   obtain ⟨hcz9_0, hcz9_1, hfz9_0, hfz9_1⟩ := c2_ BK357
   go_wp2_with (first | ((with_reducible refine gate_callee (f := 33) rfl ?_); refine gl_ (some 7) Tryd.func33 #[.agg #[.bool a0_0, .slice A0_1 l0_1.length c0_1]] ?_; (with_reducible refine (whole_Sign.calls k a0_0 _ _ l0_1 t359 _ ?side1 ?side2 A6.out).mono ?_); (case side1 => exact kc_ (Kd.C_below HR0_1.out HB.out)); (case side2 => exact HC0_1.out); rintro e w10 ⟨rfl, hb⟩; refine ⟨_, rfl, ?_⟩; replace BK357 := kq_ BK357 hb; replace BK358 := kq_ BK358 hb; replace HB := bq_ HB hb; (try clear hb); (try clear hb2); (try clear hk); (try clear hi)))
   go_meet
   case rel => exact ⟨_, (true), (by first | rfl | (simp; done) | (simp [*]; done)), H', ⟨by first | omega | exact Nat.le_refl _⟩, ⟨kb_ BK357.out⟩, ⟨kb_ BK358.out⟩, ⟨bw_ HB.out⟩⟩
  ·rw [if_neg c7] at H
   have c7b0 : (t359 == 0) = false := beq_eq_false_iff_ne.mpr c7
   have c7b1 : (t359 != 0) = true := bne_iff_ne.mpr c7
   (first | rw [c7b0] | (simp only [i64_w, i32_w]; rw [c7b0]) | skip)
   replace H := Option.bind_eq_some_iff.mp H
   obtain ⟨t360, A110, H⟩ := H
   (try dsimp only at H)
   have A11 := Aside0.mk A110
   clear A110
   have H' := Aside0.mk H
   clear H
   have hnb12 := NB357_358.out
   have hnc12 := NB358_357.out
   obtain ⟨hcz13_0, hcz13_1, hfz13_0, hfz13_1⟩ := c2_ BK357
   go_wp2_with (first | ((with_reducible refine gate_callee (f := 33) rfl ?_); refine gl_ (some 7) Tryd.func33 #[.agg #[.bool a0_0, .slice A0_1 l0_1.length c0_1]] ?_; (with_reducible refine (whole_Sign.calls k a0_0 _ _ l0_1 t359 _ ?side1 ?side2 A6.out).mono ?_); (case side1 => exact kc_ (Kd.C_below HR0_1.out HB.out)); (case side2 => exact HC0_1.out); rintro e w14 ⟨rfl, hb⟩; refine ⟨_, rfl, ?_⟩; replace BK357 := kq_ BK357 hb; replace BK358 := kq_ BK358 hb; replace HB := bq_ HB hb; (try clear hb); (try clear hb2); (try clear hk); (try clear hi)) | (go_at_call 34; (with_reducible refine (dy_within.calls a1 t360 _ A11.out).mono ?_); rintro e w' ⟨rfl, ⟨nd, rfl⟩⟩))
   go_meet
   case rel => exact ⟨_, (!t360), (by first | rfl | (simp; done) | (simp [*]; done)), H', ⟨by first | omega | exact Nat.le_refl _⟩, ⟨kb_ BK357.out⟩, ⟨kb_ BK358.out⟩, ⟨bw_ HB.out⟩⟩
 case rest =>
  clear HC3
  try clear c1
  try clear p2
  try clear c3
  try clear c7
  try clear c7b0
  try clear c7b1
  try clear c8
  try clear c12
  try clear hcz13_0 hcz13_1
  try clear hcz9_0 hcz9_1
  try clear hfz13_0 hfz13_1
  try clear hfz9_0 hfz9_1
  obtain ⟨kq, x13_2, rfl, HA, HJ2, BK357, BK358, HB⟩ := hcut
  cases kq with
  | zero => exact absurd HA.out (by simp [dy_Make.j0])
  | succ kj2 =>
   have H := HA.out
   clear HA
   simp only [dy_Make.j0] at H
   by_cases c15 : x13_2 = true
   ·subst c15
    have H1 : (some (false, ([] : List Int), 0)) = some (r1, r2, r3) := by rw [if_pos rfl] at H; exact H
    clear H
    have H := H1
    clear H1
    simp only [Option.some.injEq, Prod.mk.injEq] at H
    obtain ⟨rfl, rfl, rfl⟩ := H
    have hnb16 := NB358_357.out
    have hnc16 := NB357_358.out
    obtain ⟨hcz17_0, hcz17_1, hcz17_2, hfz17_0, hfz17_1, hfz17_2⟩ := c3_ BK358
    go_wp2
    refine bodyPost_ret (results_cell_row rfl _ _ gb358 31 #[.bool false, .slice none 0 0, .int .i64 0] (0, 0) _ rfl (by refine kb_ ?_; refine bp_ #[.bool false, .slice none 0 0, .int .i64 0] 2 ?_; refine bp_ #[.bool false, .slice none 0 0, .int .i64 0] 1 ?_; refine bp_ #[.bool false, .slice none 0 0, .int .i64 0] 0 ?_; exact BK358.out) Tryd.underlying31 rfl (by kernel_rfl)) rfl ?_
    exact ⟨_, rf_, by first | exact Kd.R_nil _ _ _ _ _ | exact Kd.N_nil _ _ _ _ _ | exact Kd.V_nil _ _ _ _ _ | exact Kd.Q_nil _ _ _ _ _ | exact Kd.S_nil _ _ _ _ _, bw_ HB.out⟩
   ·replace c15 := Bool.eq_false_iff.mpr c15
    subst c15
    have H1 : ((dy_trailing.f kj2 l0_1).bind fun t361 => ((dy_within.f (wrap64 (a1 + t361))).bind fun t362 => (if t362 = true then ((nat_Shr.f kj2 l0_1 t361).bind fun t363 => ((whole_Make.f kj2 a0_0 t363).bind fun bt366 => (some (bt366.1, bt366.2, wrap64 (a1 + t361))))) else (some (false, ([] : List Int), 0))))) = some (r1, r2, r3) := by rw [if_neg (show ¬ (false = true) by decide)] at H; exact H
    clear H
    have H := H1
    clear H1
    replace H := Option.bind_eq_some_iff.mp H
    obtain ⟨t361, A180, H⟩ := H
    (try dsimp only at H)
    have A18 := Aside0.mk A180
    clear A180
    replace H := Option.bind_eq_some_iff.mp H
    obtain ⟨t362, A190, H⟩ := H
    (try dsimp only at H)
    have A19 := Aside0.mk A190
    clear A190
    by_cases c20 : t362 = true
    ·subst c20
     have H1 : ((nat_Shr.f kj2 l0_1 t361).bind fun t363 => ((whole_Make.f kj2 a0_0 t363).bind fun bt366 => (some (bt366.1, bt366.2, wrap64 (a1 + t361))))) = some (r1, r2, r3) := by rw [if_pos rfl] at H; exact H
     clear H
     have H := H1
     clear H1
     replace H := Option.bind_eq_some_iff.mp H
     obtain ⟨t363, A210, H⟩ := H
     (try dsimp only at H)
     have A21 := Aside0.mk A210
     clear A210
     replace H := Option.bind_eq_some_iff.mp H
     obtain ⟨⟨t366, t367⟩, A220, H⟩ := H
     (try dsimp only at H)
     have A22 := Aside0.mk A220
     clear A220
     simp only [Option.some.injEq, Prod.mk.injEq] at H
     obtain ⟨rfl, rfl, rfl⟩ := H
     have hnb23 := NB357_358.out
     have hnc23 := NB358_357.out
     obtain ⟨hcz24_0, hcz24_1, hfz24_0, hfz24_1⟩ := c2_ BK357
     try go_wp2_with (first | ((with_reducible refine gate_callee (f := 35) rfl ?_); refine gl_ (some 17) Tryd.func35 #[.slice A0_1 l0_1.length c0_1] ?_; (with_reducible refine (dy_trailing.calls kj2 _ _ l0_1 t361 _ ?side1 ?side2 A18.out ?sidet).mono ?_); (case sidet => exact Kd.C_below HTAB.out (bw_ HB.out)); (case side1 => exact kc_ (Kd.C_below HR0_1.out HB.out)); (case side2 => exact HC0_1.out); rintro e w' ⟨rfl, ⟨nd, rfl⟩⟩; refine ⟨_, rfl, ?_⟩; (try (rw [drewN_self wc]; generalize hq_ : World.drewN wc _ = wc; have n0_ : Aside0 (wc.heap[gb357]? = some (.cells #[.bool a0_0, .slice A0_1 l0_1.length c0_1] 29 (0, 0))) := ⟨by rw [← hq_]; exact (kb_ BK357.out)⟩; have n1_ : Aside0 (wc.heap[gb358]? = some (.cells #[.bool false, .slice none 0 0, .int .i64 0] 31 (0, 0))) := ⟨by rw [← hq_]; exact (kb_ BK358.out)⟩; have n2_ : Aside0 (Below w.heap.size w wc) := ⟨by rw [← hq_]; exact (bw_ HB.out)⟩; clear BK357 BK358 HB hq_; have BK357 := n0_; have BK358 := n1_; have HB := n2_; clear n0_ n1_ n2_)); (try (obtain ⟨hcz24_0, hcz24_1, hfz24_0, hfz24_1⟩ := c2_ BK357))) | ((with_reducible refine gate_callee (f := 34) rfl ?_); refine gl_ (some 21) Tryd.func34 #[.int .i64 (wrap64 (a1 + t361))] ?_; (with_reducible refine (dy_within.calls (wrap64 (a1 + t361)) true _ A19.out).mono ?_); rintro e w' ⟨rfl, ⟨nd, rfl⟩⟩; refine ⟨_, rfl, ?_⟩; (try (rw [drewN_self wc]; generalize hq_ : World.drewN wc _ = wc; have n0_ : Aside0 (wc.heap[gb357]? = some (.cells #[.bool a0_0, .slice A0_1 l0_1.length c0_1] 29 (0, 0))) := ⟨by rw [← hq_]; exact (kb_ BK357.out)⟩; have n1_ : Aside0 (wc.heap[gb358]? = some (.cells #[.bool false, .slice none 0 0, .int .i64 0] 31 (0, 0))) := ⟨by rw [← hq_]; exact (kb_ BK358.out)⟩; have n2_ : Aside0 (Below w.heap.size w wc) := ⟨by rw [← hq_]; exact (bw_ HB.out)⟩; clear BK357 BK358 HB hq_; have BK357 := n0_; have BK358 := n1_; have HB := n2_; clear n0_ n1_ n2_)); (try (obtain ⟨hcz24_0, hcz24_1, hfz24_0, hfz24_1⟩ := c2_ BK357))))
     replace BK357 := Aside0.mk (blk_drew BK357.out)
     replace BK358 := Aside0.mk (blk_drew BK358.out)
     replace HB := Aside0.mk (below_drew1 HB.out)
     refine start_ (n := 12) (S := fun w' => w'.cell? ⟨gb357, 0, none⟩ = some (.bool a0_0) ∧ w'.cell? ⟨gb357, 1, none⟩ = some (.slice A0_1 l0_1.length c0_1)) (ds := []) #[false, false, false, false, false, false, false, false, false, false, false, false] (by kernel_rfl) rfl rfl ⟨(blk_cell BK357.out 0).trans rfl, (blk_cell BK357.out 1).trans rfl⟩ (fun hHeld => ?_); refine with_tabW dy_Make.tab6 dy_Make.bits6 (fun HT_ HW_ => ?_)
     generalize wc.drew = w25 at BK357 BK358 HB hHeld ⊢
     refine pure_ (i := 0) (N := some 24) (v := ?_) (a' := ?_) #[true, false, false, false, false, false, false, false, false, false, false, false] rfl rfl (any_of HT_.out (by kernel_rfl)) (fun _ _ _ h => h) (Or.inl ⟨by rfl, ?_⟩) ?_ ?_
     rotate_left
     ·intro w'
      go_simp
      with_reducible rfl
     rotate_left
     ·exact pt_
     refine pure_ (i := 2) (N := some 26) (v := ?_) (a' := ?_) #[true, false, true, false, false, false, false, false, false, false, false, false] rfl rfl (any_of HT_.out (by kernel_rfl)) (fun _ _ _ h => h) (Or.inl ⟨by rfl, ?_⟩) ?_ ?_
     rotate_left
     ·intro w'
      go_simp
      with_reducible rfl
     rotate_left
     ·exact pt_
     refine pure_ (i := 4) (N := some 28) (v := ?_) (a' := ?_) #[true, false, true, false, true, false, false, false, false, false, false, false] rfl rfl (any_of HT_.out (by kernel_rfl)) (fun _ _ _ h => h) (Or.inl ⟨by rfl, ?_⟩) ?_ ?_
     rotate_left
     ·intro w'
      go_simp
      with_reducible rfl
     rotate_left
     ·exact pt_
     refine pure_ (i := 7) (N := some 31) (v := ?_) (a' := ?_) #[true, false, true, false, true, false, false, true, false, false, false, false] rfl rfl (any_of HT_.out (by kernel_rfl)) (fun _ _ _ h => h) (Or.inl ⟨by rfl, ?_⟩) ?_ ?_
     rotate_left
     ·intro w'
      go_simp
      with_reducible rfl
     rotate_left
     ·exact pt_
     refine pure_ (i := 8) (N := some 32) (v := ?_) (a' := ?_) #[true, false, true, false, true, false, false, true, true, false, false, false] rfl rfl (any_of HT_.out (by kernel_rfl)) (fun _ _ _ h => h) (Or.inl ⟨by rfl, ?_⟩) ?_ ?_
     rotate_left
     ·intro w'
      go_simp
      with_reducible rfl
     rotate_left
     ·exact pt_
     refine pure_ (i := 9) (N := some 33) (v := ?_) (a' := ?_) #[true, false, true, false, true, false, false, true, true, true, false, false] rfl rfl (any_of HT_.out (by kernel_rfl)) (fun _ _ _ h => h) (Or.inl ⟨by rfl, ?_⟩) ?_ ?_
     rotate_left
     ·intro w'
      go_simp
      with_reducible rfl
     rotate_left
     ·exact pt_
     refine take_ (i := 1) (N := some 25) (v := ?_) (a' := ?_) #[true, true, true, false, true, false, false, true, true, true, false, false] rfl rfl (take_ofW HT_.out HW_.out (by kernel_rfl)) (fun _ _ _ h => h) (Or.inl ⟨by rfl, ?_⟩) hHeld ?_ ?_
     rotate_left
     ·rintro w' ⟨s0, s1⟩
      go_simp
      with_reducible rfl
     rotate_left
     ·exact pt_
     refine take_ (i := 3) (N := some 27) (v := ?_) (a' := ?_) #[true, true, true, true, true, false, false, true, true, true, false, false] rfl rfl (take_ofW HT_.out HW_.out (by kernel_rfl)) (fun _ _ _ h => h) (Or.inl ⟨by rfl, ?_⟩) hHeld ?_ ?_
     rotate_left
     ·rintro w' ⟨s0, s1⟩
      go_simp
      with_reducible rfl
     rotate_left
     ·exact pt_
     refine one_ (i := 5) (N := some 29) #[true, true, true, true, true, true, false, true, true, true, false, false] rfl rfl (one_of HT_.out (by kernel_rfl)) (by decide) (fun K hK => ?_)
     refine gs_ Tryd.func36 #[.slice A0_1 l0_1.length c0_1, .int .i64 t361] ?_
     with_reducible refine (nat_Shr.calls kj2 _ _ l0_1 t361 t363 _ ?side1 ?side2 A21.out).mono ?_
     (case side1 => exact kc_ (Kd.C_below HR0_1.out HB.out))
     (case side2 => exact HC0_1.out)
     rintro e w26 ⟨v364, rfl, ho0, hb⟩
     refine ⟨_, rfl, ?_⟩
     have HO365 := Aside0.mk (Kd.R_lower ho0 (below_size (bw_ HB.out)))
     replace BK357 := kq_ BK357 hb
     replace BK358 := kq_ BK358 hb
     replace HB := bq_ HB hb
     (try clear hb)
     (try clear hb2)
     (try clear hk)
     (try clear hi)
     (try clear ho0)
     obtain ⟨Ao27, co27, eo27⟩ := Kd.R_slice HO365.out
     (first | subst eo27 | (injection eo27 with f1_ f2_ f3_; have f4_ := f1_.symm; have f5_ := f3_.symm; clear f1_ f2_ f3_; subst f4_; subst f5_))
     refine hK.out _ _ ⟨(blk_cell BK357.out 0).trans rfl, (blk_cell BK357.out 1).trans rfl⟩ (fun hHeld => ?_)
     clear hK K
     refine norm_ (a' := ?_) ?_ ?_
     rotate_left
     ·show Act.put _ (some 29) _ = _
      exact pt_
     refine one_ (i := 6) (N := some 30) #[true, true, true, true, true, true, true, true, true, true, false, false] rfl rfl (one_of HT_.out (by kernel_rfl)) (by decide) (fun K hK => ?_)
     refine gs_ Tryd.func17 #[.bool a0_0, .slice Ao27 t363.length co27] ?_
     with_reducible refine (whole_Make.calls kj2 a0_0 _ _ t363 t366 t367 _ ?side1 ?side2 A22.out).mono ?_
     (case side1 => exact kc_ (Kd.R_reads' HO365.out).2.2)
     (case side2 => exact (Kd.R_reads' HO365.out).2.1)
     rintro e w28 ⟨v368, rfl, ho0, hb⟩
     refine ⟨_, rfl, ?_⟩
     have HO369 := Aside0.mk (Kd.R_lower (Kd.R_new' ho0 (Kd.R_lt (kr_ HO365.out))) (below_size (bw_ HB.out)))
     replace HO365 := Aside0.mk (Kd.R_elder' (kr_ HO365.out) (Kd.R_base ho0) hb)
     replace BK357 := kq_ BK357 hb
     replace BK358 := kq_ BK358 hb
     replace HB := bq_ HB hb
     (try clear hb)
     (try clear hb2)
     (try clear hk)
     (try clear hi)
     (try clear ho0)
     obtain ⟨Ao29, co29, eo29⟩ := Kd.R_slice HO369.out
     (first | subst eo29 | (injection eo29 with f1_ f2_ f3_; have f4_ := f1_.symm; have f5_ := f3_.symm; clear f1_ f2_ f3_; subst f4_; subst f5_))
     refine hK.out _ _ ⟨(blk_cell BK357.out 0).trans rfl, (blk_cell BK357.out 1).trans rfl⟩ (fun hHeld => ?_)
     clear hK K
     refine norm_ (a' := ?_) ?_ ?_
     rotate_left
     ·show Act.put _ (some 30) _ = _
      exact pt_
     refine pure_ (i := 10) (N := some 34) (v := ?_) (a' := ?_) #[true, true, true, true, true, true, true, true, true, true, true, false] rfl rfl (any_of HT_.out (by kernel_rfl)) (fun _ _ _ h => h) (Or.inl ⟨by rfl, ?_⟩) ?_ ?_
     rotate_left
     ·intro w'
      go_simp
      with_reducible rfl
     rotate_left
     ·exact pt_
     refine one_ (i := 11) (N := none) #[true, true, true, true, true, true, true, true, true, true, true, true] rfl rfl (one_of HT_.out (by kernel_rfl)) (by decide) (fun K hK => ?_)
     have hs30 : w28.cell? ⟨gb358, 0, none⟩ = some (.bool false) := (blk_cell BK358.out 0).trans rfl
     have hfs30 := fz_ BK358 0
     have hns30_0 := NB357_358.out
     have hms30_0 := NB358_357.out
     have hs31 : w28.cell? ⟨gb358, 1, none⟩ = some (.slice none 0 0) := (blk_cell BK358.out 1).trans rfl
     have hfs31 := fz_ BK358 1
     have hns31_0 := NB357_358.out
     have hms31_0 := NB358_357.out
     have hs32 : w28.cell? ⟨gb358, 2, none⟩ = some (.int .i64 0) := (blk_cell BK358.out 2).trans rfl
     have hfs32 := fz_ BK358 2
     have hns32_0 := NB357_358.out
     have hms32_0 := NB358_357.out
     refine skip_ (w1 := ?_) (by rfl) rfl ?_ ?_
     rotate_left
     ·go_simp
      rfl
     refine hK.out _ _ ⟨((cell_far (p := ⟨gb358, _, none⟩) NB357_358.out _).trans (((cell_far (p := ⟨gb358, _, none⟩) NB357_358.out _).trans (((cell_far (p := ⟨gb358, _, none⟩) NB357_358.out _).trans (hHeld.1)))))), ((cell_far (p := ⟨gb358, _, none⟩) NB357_358.out _).trans (((cell_far (p := ⟨gb358, _, none⟩) NB357_358.out _).trans (((cell_far (p := ⟨gb358, _, none⟩) NB357_358.out _).trans (hHeld.2))))))⟩ (fun hHeld => ?_)
     clear hK K
     refine done_ (done_of HT_.out (by kernel_rfl)) ?_
     try go_wp2
     refine bodyPost_ret (results_cell_row rfl _ _ gb358 31 #[.bool t366, .slice Ao29 t367.length co29, .int .i64 (wrap64 (a1 + t361))] (0, 0) _ rfl (by refine kb_ ?_; refine bp_ #[.bool t366, .slice Ao29 t367.length co29, .int .i64 0] 2 ?_; refine bp_ #[.bool t366, .slice none 0 0, .int .i64 0] 1 ?_; refine bp_ #[.bool false, .slice none 0 0, .int .i64 0] 0 ?_; exact BK358.out) Tryd.underlying31 rfl (by kernel_rfl)) rfl ?_
     exact ⟨_, rf_, by (with_reducible repeat (first | apply Kd.R_alloc | apply Kd.R_drewN | apply Kd.R_drew)); exact Kd.R_mono (Kd.R_far (p := ⟨gb358, 2, none⟩) (Kd.R_far (p := ⟨gb358, 1, none⟩) (Kd.R_far (p := ⟨gb358, 0, none⟩) (Kd.R_types HO369.out BK358.out (by decide)) (fun _ hk => hk.2) (.bool t366)) (fun _ hk => hk.2) (.slice Ao29 t367.length co29)) (fun _ hk => hk.2) (.int .i64 (wrap64 (a1 + t361)))) (fun _ hk => trivial), bw_ HB.out⟩
    ·replace c20 := Bool.eq_false_iff.mpr c20
     subst c20
     have H1 : (some (false, ([] : List Int), 0)) = some (r1, r2, r3) := by rw [if_neg (show ¬ (false = true) by decide)] at H; exact H
     clear H
     have H := H1
     clear H1
     simp only [Option.some.injEq, Prod.mk.injEq] at H
     obtain ⟨rfl, rfl, rfl⟩ := H
     have hnb33 := NB357_358.out
     have hnc33 := NB358_357.out
     obtain ⟨hcz34_0, hcz34_1, hfz34_0, hfz34_1⟩ := c2_ BK357
     go_wp2_with (first | ((with_reducible refine gate_callee (f := 35) rfl ?_); refine gl_ (some 17) Tryd.func35 #[.slice A0_1 l0_1.length c0_1] ?_; (with_reducible refine (dy_trailing.calls kj2 _ _ l0_1 t361 _ ?side1 ?side2 A18.out ?sidet).mono ?_); (case sidet => exact Kd.C_below HTAB.out (bw_ HB.out)); (case side1 => exact kc_ (Kd.C_below HR0_1.out HB.out)); (case side2 => exact HC0_1.out); rintro e w' ⟨rfl, ⟨nd, rfl⟩⟩; refine ⟨_, rfl, ?_⟩; (try (rw [drewN_self wc]; generalize hq_ : World.drewN wc _ = wc; have n0_ : Aside0 (wc.heap[gb357]? = some (.cells #[.bool a0_0, .slice A0_1 l0_1.length c0_1] 29 (0, 0))) := ⟨by rw [← hq_]; exact (kb_ BK357.out)⟩; have n1_ : Aside0 (wc.heap[gb358]? = some (.cells #[.bool false, .slice none 0 0, .int .i64 0] 31 (0, 0))) := ⟨by rw [← hq_]; exact (kb_ BK358.out)⟩; have n2_ : Aside0 (Below w.heap.size w wc) := ⟨by rw [← hq_]; exact (bw_ HB.out)⟩; clear BK357 BK358 HB hq_; have BK357 := n0_; have BK358 := n1_; have HB := n2_; clear n0_ n1_ n2_)); (try (obtain ⟨hcz34_0, hcz34_1, hfz34_0, hfz34_1⟩ := c2_ BK357))) | ((with_reducible refine gate_callee (f := 34) rfl ?_); refine gl_ (some 21) Tryd.func34 #[.int .i64 (wrap64 (a1 + t361))] ?_; (with_reducible refine (dy_within.calls (wrap64 (a1 + t361)) false _ A19.out).mono ?_); rintro e w' ⟨rfl, ⟨nd, rfl⟩⟩; refine ⟨_, rfl, ?_⟩; (try (rw [drewN_self wc]; generalize hq_ : World.drewN wc _ = wc; have n0_ : Aside0 (wc.heap[gb357]? = some (.cells #[.bool a0_0, .slice A0_1 l0_1.length c0_1] 29 (0, 0))) := ⟨by rw [← hq_]; exact (kb_ BK357.out)⟩; have n1_ : Aside0 (wc.heap[gb358]? = some (.cells #[.bool false, .slice none 0 0, .int .i64 0] 31 (0, 0))) := ⟨by rw [← hq_]; exact (kb_ BK358.out)⟩; have n2_ : Aside0 (Below w.heap.size w wc) := ⟨by rw [← hq_]; exact (bw_ HB.out)⟩; clear BK357 BK358 HB hq_; have BK357 := n0_; have BK358 := n1_; have HB := n2_; clear n0_ n1_ n2_)); (try (obtain ⟨hcz34_0, hcz34_1, hfz34_0, hfz34_1⟩ := c2_ BK357)); obtain ⟨hcz35_0, hcz35_1, hcz35_2, hfz35_0, hfz35_1, hfz35_2⟩ := c3_ BK358))
     refine bodyPost_ret (results_cell_row rfl _ _ gb358 31 #[.bool false, .slice none 0 0, .int .i64 0] (0, 0) _ rfl (by refine kb_ ?_; refine bp_ #[.bool false, .slice none 0 0, .int .i64 0] 2 ?_; refine bp_ #[.bool false, .slice none 0 0, .int .i64 0] 1 ?_; refine bp_ #[.bool false, .slice none 0 0, .int .i64 0] 0 ?_; exact BK358.out) Tryd.underlying31 rfl (by kernel_rfl)) rfl ?_
     exact ⟨_, rf_, by first | exact Kd.R_nil _ _ _ _ _ | exact Kd.N_nil _ _ _ _ _ | exact Kd.V_nil _ _ _ _ _ | exact Kd.Q_nil _ _ _ _ _ | exact Kd.S_nil _ _ _ _ _, bw_ HB.out⟩

/-! ### num_Exact: function 6 -/
theorem num_Exact.tab3 : rtab .any (opsOf Tryd.f6 3) = num_Exact.T3 := by kernel_rfl
theorem num_Exact.bits3 : waitsOk num_Exact.T3.2 num_Exact.B3 = true := by kernel_rfl
set_option maxHeartbeats 8000000 in
set_option maxRecDepth 100000 in
theorem num_Exact.calls (k : Nat) (a0_0 : Int) (a0_1 : Bool) (a0_2 : Int) (a0_3 : Int) (r1 : Bool) (r2 : List Int) (r3 : Int) (r4 : Bool) (w : World) (h : num_Exact.f k a0_0 a0_1 a0_2 a0_3 = some (r1, r2, r3, r4)) (htab_ : Kd.C (Kd.int .u8) w (some ⟨0, 0, none⟩) 32 tz32tab) :
  Calls Tryd.prog 6 #[.agg #[.int .i64 a0_0, .bool a0_1, .int .u64 a0_2, .int .i64 a0_3]] w fun e w' => ∃ v1_ : Value, e = .returned (.tuple #[.agg #[.bool r1, v1_, .int .i64 r3], .bool r4]) ∧ Kd.R (Kd.int .u32) 44 w' w.heap.size (fun _ => True) v1_ r2 ∧ Below w.heap.size w w' := by
 have HTAB := Aside0.mk htab_
 clear htab_
 have hu24 := Tryd.underlying24
 have hu31 := Tryd.underlying31
 have HB := Aside0.mk (Below.refl w.heap.size w)
 have H : ((num_May.f a0_0 a0_1 a0_2 a0_3).bind fun t372 => (if t372 = true then (num_Exact.j0 k (a0_0 == 2) a0_0 a0_1 a0_2 a0_3) else (num_Exact.j0 k true a0_0 a0_1 a0_2 a0_3))) = some (r1, r2, r3, r4) := h
 clear h
 have HC2 := Aside0.mk H
 clear H
 go_enter Tryd.func6, Tryd.ntmps6
 go_upto_region 1 with (first | ((with_reducible refine gate_dst (N := 1) rfl ?_); refine bx_ 1 #[.int .i64 a0_0, .bool a0_1, .int .u64 a0_2, .int .i64 a0_3] 24 ?_; intro gb370 hg w3 hbox hb; have BK370 := Aside0.mk (hbox); have GW370 := ge_ hg HB; have GE370 := ge_ hg HB; replace HB := bq_ HB hb; clear hb hbox hg) | ((with_reducible refine gate_dst (N := 2) rfl ?_); refine bx_ 2 #[.bool false, .slice none 0 0, .int .i64 0] 31 ?_; intro gb371 hg w4 hbox hb; have BK371 := Aside0.mk (hbox); have GW371 := ge_ hg HB; have GE371 := ge_ hg HB; have NB370_371 := nb_ hg BK370; have NB371_370 := nc_ hg BK370; replace BK370 := kq_ BK370 hb; replace HB := bq_ HB hb; clear hb hbox hg))
 (try simp only [Act.put, List.setIfInBounds_toArray, List.set_cons_zero, List.set_cons_succ])
 go_cut [11] (fun v11 wc => ∃ (kq : Nat) (x11_1 : Bool), v11 = .bool x11_1 ∧ Aside0 (num_Exact.j0 kq x11_1 a0_0 a0_1 a0_2 a0_3 = some (r1, r2, r3, r4)) ∧ Aside0 (kq ≤ k) ∧ Aside0 (wc.heap[gb370]? = some (.cells #[.int .i64 a0_0, .bool a0_1, .int .u64 a0_2, .int .i64 a0_3] 24 (0, 0))) ∧ Aside0 (wc.heap[gb371]? = some (.cells #[.bool false, (.slice none 0 0), .int .i64 0] 31 (0, 0))) ∧ Aside0 (Below w.heap.size w wc))
 case first =>
  have H := HC2.out
  clear HC2
  replace H := Option.bind_eq_some_iff.mp H
  obtain ⟨t372, A50, H⟩ := H
  (try dsimp only at H)
  have A5 := Aside0.mk A50
  clear A50
  by_cases c6 : t372 = true
  ·subst c6
   have H1 : (num_Exact.j0 k (a0_0 == 2) a0_0 a0_1 a0_2 a0_3) = some (r1, r2, r3, r4) := by rw [if_pos rfl] at H; exact H
   clear H
   have H := H1
   clear H1
   have H' := Aside0.mk H
   clear H
   have hnb7 := NB370_371.out
   have hnc7 := NB371_370.out
   obtain ⟨hcz8_0, hcz8_1, hcz8_2, hcz8_3, hfz8_0, hfz8_1, hfz8_2, hfz8_3⟩ := c4_ BK370
   go_wp2_with (first | ((with_reducible refine gate_callee (f := 15) rfl ?_); refine gl_ (some 5) Tryd.func15 #[.agg #[.int .i64 a0_0, .bool a0_1, .int .u64 a0_2, .int .i64 a0_3]] ?_; (with_reducible refine (num_May.calls a0_0 a0_1 a0_2 a0_3 true _ A5.out).mono ?_); rintro e w9 ⟨rfl, hb⟩; refine ⟨_, rfl, ?_⟩; replace BK370 := kq_ BK370 hb; replace BK371 := kq_ BK371 hb; replace HB := bq_ HB hb; (try clear hb); (try clear hb2); (try clear hk); (try clear hi); obtain ⟨hcz10_0, hcz10_1, hcz10_2, hcz10_3, hfz10_0, hfz10_1, hfz10_2, hfz10_3⟩ := c4_ BK370))
   go_meet
   case rel => exact ⟨_, ((a0_0 == 2)), (by first | rfl | (simp; done) | (simp [*]; done)), H', ⟨by first | omega | exact Nat.le_refl _⟩, ⟨kb_ BK370.out⟩, ⟨kb_ BK371.out⟩, ⟨bw_ HB.out⟩⟩
  ·replace c6 := Bool.eq_false_iff.mpr c6
   subst c6
   have H1 : (num_Exact.j0 k true a0_0 a0_1 a0_2 a0_3) = some (r1, r2, r3, r4) := by rw [if_neg (show ¬ (false = true) by decide)] at H; exact H
   clear H
   have H := H1
   clear H1
   have H' := Aside0.mk H
   clear H
   have hnb11 := NB370_371.out
   have hnc11 := NB371_370.out
   obtain ⟨hcz12_0, hcz12_1, hcz12_2, hcz12_3, hfz12_0, hfz12_1, hfz12_2, hfz12_3⟩ := c4_ BK370
   go_wp2_with (first | ((with_reducible refine gate_callee (f := 15) rfl ?_); refine gl_ (some 5) Tryd.func15 #[.agg #[.int .i64 a0_0, .bool a0_1, .int .u64 a0_2, .int .i64 a0_3]] ?_; (with_reducible refine (num_May.calls a0_0 a0_1 a0_2 a0_3 false _ A5.out).mono ?_); rintro e w13 ⟨rfl, hb⟩; refine ⟨_, rfl, ?_⟩; replace BK370 := kq_ BK370 hb; replace BK371 := kq_ BK371 hb; replace HB := bq_ HB hb; (try clear hb); (try clear hb2); (try clear hk); (try clear hi)))
   go_meet
   case rel => exact ⟨_, (true), (by first | rfl | (simp; done) | (simp [*]; done)), H', ⟨by first | omega | exact Nat.le_refl _⟩, ⟨kb_ BK370.out⟩, ⟨kb_ BK371.out⟩, ⟨bw_ HB.out⟩⟩
 case rest =>
  clear HC2
  try clear c1
  try clear p2
  try clear c6
  try clear c7
  try clear c11
  try clear hcz10_0 hcz10_1 hcz10_2 hcz10_3
  try clear hcz12_0 hcz12_1 hcz12_2 hcz12_3
  try clear hcz8_0 hcz8_1 hcz8_2 hcz8_3
  try clear hfz10_0 hfz10_1 hfz10_2 hfz10_3
  try clear hfz12_0 hfz12_1 hfz12_2 hfz12_3
  try clear hfz8_0 hfz8_1 hfz8_2 hfz8_3
  obtain ⟨kq, x11_1, rfl, HA, HJ1, BK370, BK371, HB⟩ := hcut
  cases kq with
  | zero => exact absurd HA.out (by simp [num_Exact.j0])
  | succ kj1 =>
   have H := HA.out
   clear HA
   simp only [num_Exact.j0] at H
   by_cases c14 : x11_1 = true
   ·subst c14
    have H1 : (some (false, ([] : List Int), 0, false)) = some (r1, r2, r3, r4) := by rw [if_pos rfl] at H; exact H
    clear H
    have H := H1
    clear H1
    simp only [Option.some.injEq, Prod.mk.injEq] at H
    obtain ⟨rfl, rfl, rfl, rfl⟩ := H
    have hnb15 := NB371_370.out
    have hnc15 := NB370_371.out
    obtain ⟨hcz16_0, hcz16_1, hcz16_2, hfz16_0, hfz16_1, hfz16_2⟩ := c3_ BK371
    go_wp2
    refine bodyPost_ret (results_ct rfl _ _ gb371 31 #[.bool false, .slice none 0 0, .int .i64 0] (0, 0) _ rfl (by refine kb_ ?_; refine bp_ #[.bool false, .slice none 0 0, .int .i64 0] 2 ?_; refine bp_ #[.bool false, .slice none 0 0, .int .i64 0] 1 ?_; refine bp_ #[.bool false, .slice none 0 0, .int .i64 0] 0 ?_; exact BK371.out) Tryd.underlying31 rfl (by kernel_rfl)) rfl ?_
    exact ⟨_, rf_, by first | exact Kd.R_nil _ _ _ _ _ | exact Kd.N_nil _ _ _ _ _ | exact Kd.V_nil _ _ _ _ _ | exact Kd.Q_nil _ _ _ _ _ | exact Kd.S_nil _ _ _ _ _, bw_ HB.out⟩
   ·replace c14 := Bool.eq_false_iff.mpr c14
    subst c14
    have H1 : ((whole_Make.f kj1 a0_1 (([(a0_2) % 4294967296, (a0_2 / 4294967296) % 4294967296] : List Int))).bind fun bt376 => ((dy_Make.f kj1 bt376.1 bt376.2 a0_3).bind fun bt380 => (some (bt380.1, bt380.2.1, bt380.2.2, true)))) = some (r1, r2, r3, r4) := by rw [if_neg (show ¬ (false = true) by decide)] at H; exact H
    clear H
    have H := H1
    clear H1
    obtain ⟨y373, hy373⟩ : ∃ y_ : List Int, y_ = (([(a0_2) % 4294967296, (a0_2 / 4294967296) % 4294967296] : List Int)) := ⟨_, rfl⟩
    replace H : ((whole_Make.f kj1 a0_1 y373).bind fun bt376 => ((dy_Make.f kj1 bt376.1 bt376.2 a0_3).bind fun bt380 => (some (bt380.1, bt380.2.1, bt380.2.2, true)))) = some (r1, r2, r3, r4) := by first | (rw [hy373]; with_reducible exact H) | (have H2_ := (Option.bind_some _ _).symm.trans H; rw [hy373]; with_reducible exact H2_) | (have H2_ := (Option.bind_some _ _).symm.trans H; with_reducible exact H2_) | with_reducible exact H | (rw [hy373]; exact H) | exact H
    have Ny373 := Aside0.mk hy373
    clear hy373
    replace H := Option.bind_eq_some_iff.mp H
    obtain ⟨⟨t376, t377⟩, A170, H⟩ := H
    (try dsimp only at H)
    have A17 := Aside0.mk A170
    clear A170
    replace H := Option.bind_eq_some_iff.mp H
    obtain ⟨⟨t380, t381, t384⟩, A180, H⟩ := H
    (try dsimp only at H)
    have A18 := Aside0.mk A180
    clear A180
    simp only [Option.some.injEq, Prod.mk.injEq] at H
    obtain ⟨rfl, rfl, rfl, rfl⟩ := H
    try go_wp2
    replace BK370 := Aside0.mk (blk_drew BK370.out)
    replace BK371 := Aside0.mk (blk_drew BK371.out)
    replace HB := Aside0.mk (below_drew1 HB.out)
    refine start_ (n := 16) (S := fun w' => w'.cell? ⟨gb370, 0, none⟩ = some (.int .i64 a0_0) ∧ w'.cell? ⟨gb370, 1, none⟩ = some (.bool a0_1) ∧ w'.cell? ⟨gb370, 2, none⟩ = some (.int .u64 a0_2) ∧ w'.cell? ⟨gb370, 3, none⟩ = some (.int .i64 a0_3)) (ds := []) #[false, false, false, false, false, false, false, false, false, false, false, false, false, false, false, false] (by kernel_rfl) rfl rfl ⟨(blk_cell BK370.out 0).trans rfl, (blk_cell BK370.out 1).trans rfl, (blk_cell BK370.out 2).trans rfl, (blk_cell BK370.out 3).trans rfl⟩ (fun hHeld => ?_); refine with_tabW num_Exact.tab3 num_Exact.bits3 (fun HT_ HW_ => ?_)
    generalize wc.drew = w19 at BK370 BK371 HB hHeld ⊢
    refine pure_ (i := 0) (N := some 13) (v := ?_) (a' := ?_) #[true, false, false, false, false, false, false, false, false, false, false, false, false, false, false, false] rfl rfl (any_of HT_.out (by kernel_rfl)) (fun _ _ _ h => h) (Or.inl ⟨by rfl, ?_⟩) ?_ ?_
    rotate_left
    ·intro w'
     go_simp
     with_reducible rfl
    rotate_left
    ·exact pt_
    refine pure_ (i := 2) (N := some 15) (v := ?_) (a' := ?_) #[true, false, true, false, false, false, false, false, false, false, false, false, false, false, false, false] rfl rfl (any_of HT_.out (by kernel_rfl)) (fun _ _ _ h => h) (Or.inl ⟨by rfl, ?_⟩) ?_ ?_
    rotate_left
    ·intro w'
     go_simp
     with_reducible rfl
    rotate_left
    ·exact pt_
    refine pure_ (i := 5) (N := some 18) (v := ?_) (a' := ?_) #[true, false, true, false, false, true, false, false, false, false, false, false, false, false, false, false] rfl rfl (any_of HT_.out (by kernel_rfl)) (fun _ _ _ h => h) (Or.inl ⟨by rfl, ?_⟩) ?_ ?_
    rotate_left
    ·intro w'
     go_simp
     with_reducible rfl
    rotate_left
    ·exact pt_
    refine pure_ (i := 11) (N := some 24) (v := ?_) (a' := ?_) #[true, false, true, false, false, true, false, false, false, false, false, true, false, false, false, false] rfl rfl (any_of HT_.out (by kernel_rfl)) (fun _ _ _ h => h) (Or.inl ⟨by rfl, ?_⟩) ?_ ?_
    rotate_left
    ·intro w'
     go_simp
     with_reducible rfl
    rotate_left
    ·exact pt_
    refine take_ (i := 1) (N := some 14) (v := ?_) (a' := ?_) #[true, true, true, false, false, true, false, false, false, false, false, true, false, false, false, false] rfl rfl (take_ofW HT_.out HW_.out (by kernel_rfl)) (fun _ _ _ h => h) (Or.inl ⟨by rfl, ?_⟩) hHeld ?_ ?_
    rotate_left
    ·rintro w' ⟨s0, s1, s2, s3⟩
     go_simp
     with_reducible rfl
    rotate_left
    ·exact pt_
    refine take_ (i := 3) (N := some 16) (v := ?_) (a' := ?_) #[true, true, true, true, false, true, false, false, false, false, false, true, false, false, false, false] rfl rfl (take_ofW HT_.out HW_.out (by kernel_rfl)) (fun _ _ _ h => h) (Or.inl ⟨by rfl, ?_⟩) hHeld ?_ ?_
    rotate_left
    ·rintro w' ⟨s0, s1, s2, s3⟩
     go_simp
     with_reducible rfl
    rotate_left
    ·exact pt_
    refine pure_ (i := 4) (N := some 17) (v := ?_) (a' := ?_) #[true, true, true, true, true, true, false, false, false, false, false, true, false, false, false, false] rfl rfl (any_of HT_.out (by kernel_rfl)) (fun _ _ _ h => h) (Or.inl ⟨by rfl, ?_⟩) ?_ ?_
    rotate_left
    ·intro w'
     go_simp
     with_reducible rfl
    rotate_left
    ·exact pt_
    refine take_ (i := 6) (N := some 19) (v := ?_) (a' := ?_) #[true, true, true, true, true, true, true, false, false, false, false, true, false, false, false, false] rfl rfl (take_ofW HT_.out HW_.out (by kernel_rfl)) (fun _ _ _ h => h) (Or.inl ⟨by rfl, ?_⟩) hHeld ?_ ?_
    rotate_left
    ·rintro w' ⟨s0, s1, s2, s3⟩
     go_simp
     with_reducible rfl
    rotate_left
    ·exact pt_
    refine pure_ (i := 7) (N := some 20) (v := ?_) (a' := ?_) #[true, true, true, true, true, true, true, true, false, false, false, true, false, false, false, false] rfl rfl (any_of HT_.out (by kernel_rfl)) (fun _ _ _ h => h) (Or.inl ⟨by rfl, ?_⟩) ?_ ?_
    rotate_left
    ·intro w'
     go_simp
     with_reducible rfl
    rotate_left
    ·exact pt_
    refine pure_ (i := 8) (N := some 21) (v := ?_) (a' := ?_) #[true, true, true, true, true, true, true, true, true, false, false, true, false, false, false, false] rfl rfl (any_of HT_.out (by kernel_rfl)) (fun _ _ _ h => h) (Or.inl ⟨by rfl, ?_⟩) ?_ ?_
    rotate_left
    ·intro w'
     go_simp
     with_reducible rfl
    rotate_left
    ·exact pt_
    refine take_ (i := 12) (N := some 25) (v := ?_) (a' := ?_) #[true, true, true, true, true, true, true, true, true, false, false, true, true, false, false, false] rfl rfl (take_ofW HT_.out HW_.out (by kernel_rfl)) (fun _ _ _ h => h) (Or.inl ⟨by rfl, ?_⟩) hHeld ?_ ?_
    rotate_left
    ·rintro w' ⟨s0, s1, s2, s3⟩
     go_simp
     with_reducible rfl
    rotate_left
    ·exact pt_
    refine one_ (i := 9) (N := some 22) #[true, true, true, true, true, true, true, true, true, true, false, true, true, false, false, false] rfl rfl (one_of HT_.out (by kernel_rfl)) (by decide) (fun K hK => ?_)
    refine Kd.R_lit_step (Kd.int .u32) _ 44 ?hg (N := 22) ?hd (xs := ([(a0_2) % 4294967296, (a0_2 / 4294967296) % 4294967296] : List Int)) (inner := [.int .u32 ((a0_2) % 4294967296), .int .u32 ((a0_2 / 4294967296) % 4294967296)]) (ok := fun _ => True) (okp := fun _ => True) ?hr ?hp (fun _ hk => hk) trivial (Below.refl _ _) (Nat.le_refl _) (by simp) ?_; (case hd => rfl); (case hg => rfl); (case hr => first | (go_simp; done) | (go_simp; rfl)); (case hp => exact (Reps.one (show Kd.M (Kd.int .u32) _ _ _ ((a0_2) % 4294967296) [.int .u32 ((a0_2) % 4294967296)] from rfl) (Reps.one (show Kd.M (Kd.int .u32) _ _ _ ((a0_2 / 4294967296) % 4294967296) [.int .u32 ((a0_2 / 4294967296) % 4294967296)] from rfl) (Reps.none _ _))))
    intro v374 w20 ho21 hb hg_ hnew_
    clear hg_ hnew_
    (first | rw [← Ny373.out] at ho21 | (simp only [Int.reduceToNat] at ho21; rw [← Ny373.out] at ho21))
    have HO375 := Aside0.mk (Kd.R_lower ho21 (below_size (bw_ HB.out)))
    replace BK370 := kq_ BK370 hb
    replace BK371 := kq_ BK371 hb
    replace HB := bq_ HB hb
    clear hb ho21
    obtain ⟨Ao22, co22, eo22⟩ := Kd.R_slice HO375.out
    (first | subst eo22 | (injection eo22 with f1_ f2_ f3_; have f4_ := f1_.symm; have f5_ := f3_.symm; clear f1_ f2_ f3_; subst f4_; subst f5_))
    refine hK.out _ _ ⟨(blk_cell BK370.out 0).trans rfl, (blk_cell BK370.out 1).trans rfl, (blk_cell BK370.out 2).trans rfl, (blk_cell BK370.out 3).trans rfl⟩ (fun hHeld => ?_)
    clear hK K
    refine norm_ (a' := ?_) ?_ ?_
    rotate_left
    ·show Act.put _ (some 22) _ = _
     exact pt_
    refine one_ (i := 10) (N := some 23) #[true, true, true, true, true, true, true, true, true, true, true, true, true, false, false, false] rfl rfl (one_of HT_.out (by kernel_rfl)) (by decide) (fun K hK => ?_)
    refine gs_ Tryd.func17 #[.bool a0_1, .slice Ao22 y373.length co22] ?_
    with_reducible refine (whole_Make.calls kj1 a0_1 _ _ y373 t376 t377 _ ?side1 ?side2 A17.out).mono ?_
    (case side1 => exact kc_ (Kd.R_reads' HO375.out).2.2)
    (case side2 => exact (Kd.R_reads' HO375.out).2.1)
    rintro e w23 ⟨v378, rfl, ho0, hb⟩
    refine ⟨_, rfl, ?_⟩
    have HO379 := Aside0.mk (Kd.R_lower (Kd.R_new' ho0 (Kd.R_lt (kr_ HO375.out))) (below_size (bw_ HB.out)))
    replace HO375 := Aside0.mk (Kd.R_elder' (kr_ HO375.out) (Kd.R_base ho0) hb)
    replace BK370 := kq_ BK370 hb
    replace BK371 := kq_ BK371 hb
    replace HB := bq_ HB hb
    (try clear hb)
    (try clear hb2)
    (try clear hk)
    (try clear hi)
    (try clear ho0)
    obtain ⟨Ao24, co24, eo24⟩ := Kd.R_slice HO379.out
    (first | subst eo24 | (injection eo24 with f1_ f2_ f3_; have f4_ := f1_.symm; have f5_ := f3_.symm; clear f1_ f2_ f3_; subst f4_; subst f5_))
    refine hK.out _ _ ⟨(blk_cell BK370.out 0).trans rfl, (blk_cell BK370.out 1).trans rfl, (blk_cell BK370.out 2).trans rfl, (blk_cell BK370.out 3).trans rfl⟩ (fun hHeld => ?_)
    clear hK K
    refine norm_ (a' := ?_) ?_ ?_
    rotate_left
    ·show Act.put _ (some 23) _ = _
     exact pt_
    refine one_ (i := 13) (N := some 26) #[true, true, true, true, true, true, true, true, true, true, true, true, true, true, false, false] rfl rfl (one_of HT_.out (by kernel_rfl)) (by decide) (fun K hK => ?_)
    refine gs_ Tryd.func16 #[.agg #[.bool t376, .slice Ao24 t377.length co24], .int .i64 a0_3] ?_
    with_reducible refine (dy_Make.calls kj1 t376 _ _ t377 a0_3 t380 t381 t384 _ ?side1 ?side2 A18.out ?sidet).mono ?_
    (case sidet => exact Kd.C_below HTAB.out (bw_ HB.out))
    (case side1 => exact kc_ (Kd.R_reads' HO379.out).2.2)
    (case side2 => exact (Kd.R_reads' HO379.out).2.1)
    rintro e w25 ⟨v382, rfl, ho0, hb⟩
    refine ⟨_, rfl, ?_⟩
    have HO383 := Aside0.mk (Kd.R_lower (Kd.R_new' (Kd.R_new' ho0 (Kd.R_lt (kr_ HO375.out))) (Kd.R_lt (kr_ HO379.out))) (below_size (bw_ HB.out)))
    replace HO375 := Aside0.mk (Kd.R_elder' (kr_ HO375.out) (Kd.R_base ho0) hb)
    replace HO379 := Aside0.mk (Kd.R_elder' (kr_ HO379.out) (Kd.R_base ho0) hb)
    replace BK370 := kq_ BK370 hb
    replace BK371 := kq_ BK371 hb
    replace HB := bq_ HB hb
    (try clear hb)
    (try clear hb2)
    (try clear hk)
    (try clear hi)
    (try clear ho0)
    obtain ⟨Ao27, co27, eo27⟩ := Kd.R_slice HO383.out
    (first | subst eo27 | (injection eo27 with f1_ f2_ f3_; have f4_ := f1_.symm; have f5_ := f3_.symm; clear f1_ f2_ f3_; subst f4_; subst f5_))
    refine hK.out _ _ ⟨(blk_cell BK370.out 0).trans rfl, (blk_cell BK370.out 1).trans rfl, (blk_cell BK370.out 2).trans rfl, (blk_cell BK370.out 3).trans rfl⟩ (fun hHeld => ?_)
    clear hK K
    refine norm_ (a' := ?_) ?_ ?_
    rotate_left
    ·show Act.put _ (some 26) _ = _
     exact pt_
    refine one_ (i := 14) (N := none) #[true, true, true, true, true, true, true, true, true, true, true, true, true, true, true, false] rfl rfl (one_of HT_.out (by kernel_rfl)) (by decide) (fun K hK => ?_)
    have hs26 : w25.cell? ⟨gb371, 0, none⟩ = some (.bool false) := (blk_cell BK371.out 0).trans rfl
    have hfs26 := fz_ BK371 0
    have hns26_0 := NB370_371.out
    have hms26_0 := NB371_370.out
    have hs28 : w25.cell? ⟨gb371, 1, none⟩ = some (.slice none 0 0) := (blk_cell BK371.out 1).trans rfl
    have hfs28 := fz_ BK371 1
    have hns28_0 := NB370_371.out
    have hms28_0 := NB371_370.out
    have hs29 : w25.cell? ⟨gb371, 2, none⟩ = some (.int .i64 0) := (blk_cell BK371.out 2).trans rfl
    have hfs29 := fz_ BK371 2
    have hns29_0 := NB370_371.out
    have hms29_0 := NB371_370.out
    refine skip_ (w1 := ?_) (by rfl) rfl ?_ ?_
    rotate_left
    ·go_simp
     rfl
    refine hK.out _ _ ⟨((cell_far (p := ⟨gb371, _, none⟩) NB370_371.out _).trans (((cell_far (p := ⟨gb371, _, none⟩) NB370_371.out _).trans (((cell_far (p := ⟨gb371, _, none⟩) NB370_371.out _).trans (hHeld.1)))))), ((cell_far (p := ⟨gb371, _, none⟩) NB370_371.out _).trans (((cell_far (p := ⟨gb371, _, none⟩) NB370_371.out _).trans (((cell_far (p := ⟨gb371, _, none⟩) NB370_371.out _).trans (hHeld.2.1)))))), ((cell_far (p := ⟨gb371, _, none⟩) NB370_371.out _).trans (((cell_far (p := ⟨gb371, _, none⟩) NB370_371.out _).trans (((cell_far (p := ⟨gb371, _, none⟩) NB370_371.out _).trans (hHeld.2.2.1)))))), ((cell_far (p := ⟨gb371, _, none⟩) NB370_371.out _).trans (((cell_far (p := ⟨gb371, _, none⟩) NB370_371.out _).trans (((cell_far (p := ⟨gb371, _, none⟩) NB370_371.out _).trans (hHeld.2.2.2))))))⟩ (fun hHeld => ?_)
    clear hK K
    refine pure_ (i := 15) (N := some 3) (v := ?_) (a' := ?_) #[true, true, true, true, true, true, true, true, true, true, true, true, true, true, true, true] rfl rfl (any_of HT_.out (by kernel_rfl)) (fun _ _ _ h => h) (Or.inl ⟨by rfl, ?_⟩) ?_ ?_
    rotate_left
    ·intro w'
     go_simp
     with_reducible rfl
    rotate_left
    ·exact pt_
    refine done_ (done_of HT_.out (by kernel_rfl)) ?_
    try go_wp2
    refine bodyPost_ret (results_ct rfl _ _ gb371 31 #[.bool t380, .slice Ao27 t381.length co27, .int .i64 t384] (0, 0) _ rfl (by refine kb_ ?_; refine bp_ #[.bool t380, .slice Ao27 t381.length co27, .int .i64 0] 2 ?_; refine bp_ #[.bool t380, .slice none 0 0, .int .i64 0] 1 ?_; refine bp_ #[.bool false, .slice none 0 0, .int .i64 0] 0 ?_; exact BK371.out) Tryd.underlying31 rfl (by kernel_rfl)) rfl ?_
    exact ⟨_, rf_, by (with_reducible repeat (first | apply Kd.R_alloc | apply Kd.R_drewN | apply Kd.R_drew)); exact Kd.R_mono (Kd.R_far (p := ⟨gb371, 2, none⟩) (Kd.R_far (p := ⟨gb371, 1, none⟩) (Kd.R_far (p := ⟨gb371, 0, none⟩) (Kd.R_types HO383.out BK371.out (by decide)) (fun _ hk => hk.2) (.bool t380)) (fun _ hk => hk.2) (.slice Ao27 t381.length co27)) (fun _ hk => hk.2) (.int .i64 t384)) (fun _ hk => trivial), bw_ HB.out⟩

end Go.Proofs.YthlhogcnfaiphaaDoor.PA
