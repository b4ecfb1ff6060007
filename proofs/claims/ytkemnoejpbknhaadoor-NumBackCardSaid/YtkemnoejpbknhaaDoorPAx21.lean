-- Laid by this work's own program; Lean checks it.
import Derived.Test.YtkemnoejpbknhaaDoorPAx0
import Derived.Test.YtkemnoejpbknhaaDoorPAx2
import Derived.Test.YtkemnoejpbknhaaDoorPAx3
import Derived.Test.YtkemnoejpbknhaaDoorPAx20
namespace Go.Proofs.YtkemnoejpbknhaaDoor.PA
open Go.RowKit Go.Proofs.YtkemnoejpbknhaaDoorW.PrintWords Go.Proofs.YtkemnoejpbknhaaDoorW.PrintLast Go.Proofs.YtkemnoejpbknhaaDoorW.PrintMore
attribute [local go_sem] max2_int min2_int max_two min_two max_three min_three max_four min_four   -- for this text's walks alone
set_option linter.unusedVariables false
set_option linter.unusedSimpArgs false

attribute [local go_sem ↓ high] isSome_set_
/-! ### nat_Sub: function 94 -/
set_option maxHeartbeats 8000000 in
set_option maxRecDepth 100000 in
theorem nat_Sub.calls (k : Nat) (A0 : Option Addr) (c0 : Nat) (l0 : List Int) (A1 : Option Addr) (c1 : Nat) (l1 : List Int) (r1 : List Int) (r2 : Bool) (w : World) (hr0 : Kd.C (Kd.int .u32) w A0 l0.length l0) (hc0 : l0.length ≤ c0) (hr1 : Kd.C (Kd.int .u32) w A1 l1.length l1) (hc1 : l1.length ≤ c1) (h : nat_Sub.f k l0 l1 = some (r1, r2)) :
  Calls Tryd.prog 94 #[.slice A0 l0.length c0, .slice A1 l1.length c1] w fun e w' => ∃ v0_ : Value, e = .returned (.tuple #[v0_, .bool r2]) ∧ Kd.R (Kd.int .u32) 53 w' w.heap.size (fun _ => True) v0_ r1 ∧ Below w.heap.size w w' := by
 have HR0 := Aside0.mk hr0
 have HC0 := Aside0.mk hc0
 clear hr0 hc0
 have HR1 := Aside0.mk hr1
 have HC1 := Aside0.mk hc1
 clear hr1 hc1
 have HB := Aside0.mk (Below.refl w.heap.size w)
 have H : ((nat_cut.f k l0).bind fun t976 => ((nat_cut.f k l1).bind fun t979 => ((nat_Cmp.f k t976 t979).bind fun t982 => (if t982 < 0 then (some (([] : List Int), false)) else (if 0 ≤ (t976.length : Int) then (if ((t976.length : Int) : Int).toNat ≤ 70368744177664 then (nat_Sub.l0 k t976 t979 (List.replicate ((t976.length : Int) : Int).toNat 0) 0 (t976.length : Int) 0) else (none)) else (none)))))) = some (r1, r2) := h
 clear h
 replace H := Option.bind_eq_some_iff.mp H
 obtain ⟨t976, A30, H⟩ := H
 (try dsimp only at H)
 have A3 := Aside0.mk A30
 clear A30
 replace H := Option.bind_eq_some_iff.mp H
 obtain ⟨t979, A40, H⟩ := H
 (try dsimp only at H)
 have A4 := Aside0.mk A40
 clear A40
 replace H := Option.bind_eq_some_iff.mp H
 obtain ⟨t982, A50, H⟩ := H
 (try dsimp only at H)
 have A5 := Aside0.mk A50
 clear A50
 by_cases c6 : t982 < 0
 ·rw [if_pos c6] at H
  have c6b0 : decide (t982 < 0) = true := decide_eq_true c6
  clear c6
  simp only [Option.some.injEq, Prod.mk.injEq] at H
  obtain ⟨rfl, rfl⟩ := H
  go_enter Tryd.func94, Tryd.ntmps94
  go_wp2_with (first | ((with_reducible refine gate_callee (f := 66) rfl ?_); refine gl_ (some 11) Tryd.func66 #[.slice A0 l0.length c0] ?_; (with_reducible refine (nat_cut.calls k (fun k_ => k_ < w.heap.size) _ _ l0 t976 _ ?side1 A3.out).mono ?_); (case side1 => exact Kd.V_mk HC0.out (Kd.F_below (Kd.C_F (Kd.heap_int .u32) HR0.out) (bw_ HB.out))); rintro e w7 ⟨v977, rfl, ho0, hb⟩; refine ⟨_, rfl, ?_⟩; have HO978 := Aside0.mk (Kd.V_lower (Kd.V_mono (ok' := fun k_ => True) ho0 (fun k_ hk_ => trivial)) (below_size (bw_ HB.out))); replace HB := bq_ HB hb; (try clear hb); (try clear hb2); (try clear hk); (try clear hi); (try clear ho0)) | ((with_reducible refine gate_callee (f := 66) rfl ?_); refine gl_ (some 13) Tryd.func66 #[.slice A1 l1.length c1] ?_; (with_reducible refine (nat_cut.calls k (fun k_ => k_ < w.heap.size) _ _ l1 t979 _ ?side1 A4.out).mono ?_); (case side1 => exact Kd.V_mk HC1.out (Kd.F_below (Kd.C_F (Kd.heap_int .u32) HR1.out) (bw_ HB.out))); rintro e w8 ⟨v980, rfl, ho0, hb⟩; refine ⟨_, rfl, ?_⟩; have n0_ := Aside0.mk (Kd.V_below (by (with_reducible repeat (first | apply Kd.V_alloc | apply Kd.V_drewN | apply Kd.V_drew)); exact HO978.out) hb); have n1_ := Aside0.mk (Kd.V_lower (Kd.V_mono (ok' := fun k_ => True) ho0 (fun k_ hk_ => trivial)) (below_size (bw_ HB.out))); have n2_ := bq_ HB hb; clear HO978; clear HB; have HO978 := n0_; have HO981 := n1_; have HB := n2_; clear n0_ n1_ n2_; (try clear hb); (try clear hb2); (try clear hk); (try clear hi); (try clear ho0); obtain ⟨Ao9, co9, eo9⟩ := Kd.V_slice HO978.out; subst eo9; obtain ⟨Ao10, co10, eo10⟩ := Kd.V_slice HO981.out; subst eo10) | ((with_reducible refine gate_callee (f := 96) rfl ?_); refine gl_ (some 16) Tryd.func96 #[.slice Ao9 t976.length co9, .slice Ao10 t979.length co10] ?_; (with_reducible refine (nat_Cmp.calls k _ _ t976 _ _ t979 t982 _ ?side1 ?side2 ?side3 ?side4 A5.out).mono ?_); (case side1 => exact kc_ (Kd.V_reads' HO978.out).2.2); (case side2 => exact (Kd.V_reads' HO978.out).2.1); (case side3 => exact kc_ (Kd.V_reads' HO981.out).2.2); (case side4 => exact (Kd.V_reads' HO981.out).2.1); rintro e w11 ⟨rfl, hb⟩; refine ⟨_, rfl, ?_⟩; have n0_ := Aside0.mk (Kd.V_below (by (with_reducible repeat (first | apply Kd.V_alloc | apply Kd.V_drewN | apply Kd.V_drew)); exact HO978.out) hb); have n1_ := Aside0.mk (Kd.V_below (by (with_reducible repeat (first | apply Kd.V_alloc | apply Kd.V_drewN | apply Kd.V_drew)); exact HO981.out) hb); have n2_ := bq_ HB hb; clear HO978; clear HO981; clear HB; have HO978 := n0_; have HO981 := n1_; have HB := n2_; clear n0_ n1_ n2_; (try clear hb); (try clear hb2); (try clear hk); (try clear hi)))
  go_ret2
  exact ⟨_, rf_, by first | exact Kd.R_nil _ _ _ _ _ | exact Kd.N_nil _ _ _ _ _ | exact Kd.V_nil _ _ _ _ _ | exact Kd.Q_nil _ _ _ _ _ | exact Kd.S_nil _ _ _ _ _, bw_ HB.out⟩
 ·rw [if_neg c6] at H
  have c6b0 : decide (t982 < 0) = false := decide_eq_false c6
  clear c6
  by_cases c12 : 0 ≤ (t976.length : Int)
  ·rw [if_pos c12] at H
   have c12b0 := eq_true c12
   have c12b1 : decide (0 ≤ (t976.length : Int)) = true := decide_eq_true c12
   clear c12
   by_cases c13 : ((t976.length : Int) : Int).toNat ≤ 70368744177664
   ·rw [if_pos c13] at H
    have c13b0 := eq_true c13
    have c13b1 : decide (((t976.length : Int) : Int).toNat ≤ 70368744177664) = true := decide_eq_true c13
    clear c13
    obtain ⟨y983, hy983⟩ : ∃ y_ : List Int, y_ = (List.replicate ((t976.length : Int) : Int).toNat 0) := ⟨_, rfl⟩
    replace H : (nat_Sub.l0 k t976 t979 y983 0 (t976.length : Int) 0) = some (r1, r2) := by first | (rw [hy983]; with_reducible exact H) | (have H2_ := (Option.bind_some _ _).symm.trans H; rw [hy983]; with_reducible exact H2_) | (have H2_ := (Option.bind_some _ _).symm.trans H; with_reducible exact H2_) | with_reducible exact H | (rw [hy983]; exact H) | exact H
    have Ny983 := Aside0.mk hy983
    clear hy983
    have H' := Aside0.mk H
    clear H
    go_enter Tryd.func94, Tryd.ntmps94
    go_wp2_with (first | ((with_reducible refine gate_callee (f := 66) rfl ?_); refine gl_ (some 11) Tryd.func66 #[.slice A0 l0.length c0] ?_; (with_reducible refine (nat_cut.calls k (fun k_ => k_ < w.heap.size) _ _ l0 t976 _ ?side1 A3.out).mono ?_); (case side1 => exact Kd.V_mk HC0.out (Kd.F_below (Kd.C_F (Kd.heap_int .u32) HR0.out) (bw_ HB.out))); rintro e w14 ⟨v977, rfl, ho0, hb⟩; refine ⟨_, rfl, ?_⟩; have HO978 := Aside0.mk (Kd.V_lower (Kd.V_mono (ok' := fun k_ => True) ho0 (fun k_ hk_ => trivial)) (below_size (bw_ HB.out))); replace HB := bq_ HB hb; (try clear hb); (try clear hb2); (try clear hk); (try clear hi); (try clear ho0)) | ((with_reducible refine gate_callee (f := 66) rfl ?_); refine gl_ (some 13) Tryd.func66 #[.slice A1 l1.length c1] ?_; (with_reducible refine (nat_cut.calls k (fun k_ => k_ < w.heap.size) _ _ l1 t979 _ ?side1 A4.out).mono ?_); (case side1 => exact Kd.V_mk HC1.out (Kd.F_below (Kd.C_F (Kd.heap_int .u32) HR1.out) (bw_ HB.out))); rintro e w15 ⟨v980, rfl, ho0, hb⟩; refine ⟨_, rfl, ?_⟩; have n0_ := Aside0.mk (Kd.V_below (by (with_reducible repeat (first | apply Kd.V_alloc | apply Kd.V_drewN | apply Kd.V_drew)); exact HO978.out) hb); have n1_ := Aside0.mk (Kd.V_lower (Kd.V_mono (ok' := fun k_ => True) ho0 (fun k_ hk_ => trivial)) (below_size (bw_ HB.out))); have n2_ := bq_ HB hb; clear HO978; clear HB; have HO978 := n0_; have HO981 := n1_; have HB := n2_; clear n0_ n1_ n2_; (try clear hb); (try clear hb2); (try clear hk); (try clear hi); (try clear ho0); obtain ⟨Ao16, co16, eo16⟩ := Kd.V_slice HO978.out; subst eo16; obtain ⟨Ao17, co17, eo17⟩ := Kd.V_slice HO981.out; subst eo17) | ((with_reducible refine gate_callee (f := 96) rfl ?_); refine gl_ (some 16) Tryd.func96 #[.slice Ao16 t976.length co16, .slice Ao17 t979.length co17] ?_; (with_reducible refine (nat_Cmp.calls k _ _ t976 _ _ t979 t982 _ ?side1 ?side2 ?side3 ?side4 A5.out).mono ?_); (case side1 => exact kc_ (Kd.V_reads' HO978.out).2.2); (case side2 => exact (Kd.V_reads' HO978.out).2.1); (case side3 => exact kc_ (Kd.V_reads' HO981.out).2.2); (case side4 => exact (Kd.V_reads' HO981.out).2.1); rintro e w18 ⟨rfl, hb⟩; refine ⟨_, rfl, ?_⟩; have n0_ := Aside0.mk (Kd.V_below (by (with_reducible repeat (first | apply Kd.V_alloc | apply Kd.V_drewN | apply Kd.V_drew)); exact HO978.out) hb); have n1_ := Aside0.mk (Kd.V_below (by (with_reducible repeat (first | apply Kd.V_alloc | apply Kd.V_drewN | apply Kd.V_drew)); exact HO981.out) hb); have n2_ := bq_ HB hb; clear HO978; clear HO981; clear HB; have HO978 := n0_; have HO981 := n1_; have HB := n2_; clear n0_ n1_ n2_; (try clear hb); (try clear hb2); (try clear hk); (try clear hi)) | ((with_reducible refine gate_dst (N := 20) rfl ?_); refine Kd.R_make (Kd.int .u32) _ 53 rfl (N := 20) rfl 22 _ _ rfl (t976.length : Int) rfl rfl Tryd.underlying22 (.int .u32 0) 4 info53 rfl (by decide) (by omega) 0 (ok := fun _ => True) (okp := fun _ => True) rfl (fun _ hk => hk) trivial (of_decide_eq_true (by first | (with_reducible assumption) | assumption)) (Nat.le_trans (Nat.mul_le_mul_right _ (of_decide_eq_true (by first | (with_reducible assumption) | assumption) : (t976.length : Int).toNat ≤ 70368744177664)) (by omega)) (Below.refl _ _) (Nat.le_refl _) ?_; intro v984 w19 ho20 hb hg_ hnew_; clear hg_ hnew_; (first | rw [← Ny983.out] at ho20 | (simp only [Int.reduceToNat] at ho20; rw [← Ny983.out] at ho20)); have n0_ := Aside0.mk (Kd.V_elder' (by (with_reducible repeat (first | apply Kd.V_alloc | apply Kd.V_drewN | apply Kd.V_drew)); exact HO978.out) (Kd.R_base ho20) hb); have n1_ := Aside0.mk (Kd.V_elder' (by (with_reducible repeat (first | apply Kd.V_alloc | apply Kd.V_drewN | apply Kd.V_drew)); exact HO981.out) (Kd.R_base ho20) hb); have n2_ := Aside0.mk (Kd.R_lower ho20 (below_size (bw_ HB.out))); have n3_ := bq_ HB hb; clear HO978; clear HO981; clear HB; have HO978 := n0_; have HO981 := n1_; have HO985 := n2_; have HB := n3_; clear n0_ n1_ n2_ n3_; clear hb ho20))
    go_loopg [7, 23] k (fun kq v7 v23 w' => ∃ (x6_1 : List Int) (x7_1 : Int) (x23_1 : Int), v7 = .int .u32 x7_1 ∧ v23 = .int .i64 x23_1 ∧ Aside0 (nat_Sub.l0 kq t976 t979 x6_1 x7_1 (t976.length : Int) x23_1 = some (r1, r2)) ∧ Aside0 (kq ≤ k) ∧ Aside0 (Kd.V (Kd.int .u32) 53 w' w.heap.size (fun k_ => some k_ ≠ (v984 : Value).ownBlock) (.slice Ao16 t976.length co16) t976) ∧ Aside0 (Kd.V (Kd.int .u32) 53 w' w.heap.size (fun k_ => some k_ ≠ (v984 : Value).ownBlock) (.slice Ao17 t979.length co17) t979) ∧ Aside0 (Kd.R (Kd.int .u32) 53 w' w.heap.size (fun _ => True) v984 x6_1) ∧ Aside0 (Below w.heap.size w w'))
    case atStart => exact ⟨(y983), (0), (0), (by first | rfl | (simp; done) | (simp [*]; done)), (by first | rfl | (simp; done) | (simp [*]; done)), H', ⟨Nat.le_refl _⟩, ⟨by (with_reducible repeat (first | apply Kd.V_alloc | apply Kd.V_drewN | apply Kd.V_drew)); exact Kd.V_mono HO978.out (fun _ hk => hk.2)⟩, ⟨by (with_reducible repeat (first | apply Kd.V_alloc | apply Kd.V_drewN | apply Kd.V_drew)); exact Kd.V_mono HO981.out (fun _ hk => hk.2)⟩, ⟨by (with_reducible repeat (first | apply Kd.R_alloc | apply Kd.R_drewN | apply Kd.R_drew)); exact HO985.out⟩, ⟨bw_ HB.out⟩⟩
    case round =>
     clear H'
     try clear c1
     try clear p2
     try clear c6
     try clear c6b0
     try clear c9
     try clear c12
     try clear c12b0
     try clear c12b1
     try clear c13
     try clear c13b0
     try clear c13b1
     obtain ⟨x6_1, x7_1, x23_1, rfl, rfl, HA, HK1, HO_0, HO_1, HO_6, HB⟩ := hrel
     cases gk with
     | zero => exact absurd HA.out (by simp [nat_Sub.l0])
     | succ k1 =>
      have H := HA.out
      clear HA
      simp only [nat_Sub.l0] at H
      by_cases c21 : x23_1 < (t976.length : Int)
      ·rw [if_pos c21] at H
       have c21b0 : decide (x23_1 < (t976.length : Int)) = true := decide_eq_true c21
       clear c21
       by_cases c22 : x23_1 < (t979.length : Int)
       ·rw [if_pos c22] at H
        have c22b0 : decide (x23_1 < (t979.length : Int)) = true := decide_eq_true c22
        clear c22
        by_cases c23 : 0 ≤ x23_1
        ·rw [if_pos c23] at H
         have c23b0 : decide (0 ≤ x23_1) = true := decide_eq_true c23
         clear c23
         by_cases c24 : x23_1 < (t976.length : Int)
         ·rw [if_pos c24] at H
          have c24b0 : decide (x23_1 < (t976.length : Int)) = true := decide_eq_true c24
          clear c24
          replace H := Option.bind_eq_some_iff.mp H
          obtain ⟨⟨t988, t989⟩, A250, H⟩ := H
          (try dsimp only at H)
          have A25 := Aside0.mk A250
          clear A250
          by_cases c26 : x23_1 < (x6_1.length : Int)
          ·rw [if_pos c26] at H
           have c26b0 : decide (x23_1 < (x6_1.length : Int)) = true := decide_eq_true c26
           clear c26
           obtain ⟨y990, hy990⟩ : ∃ y_ : List Int, y_ = (x6_1.set (x23_1 : Int).toNat t988) := ⟨_, rfl⟩
           replace H : (nat_Sub.l0 k1 t976 t979 y990 t989 (t976.length : Int) (wrap64 (x23_1 + 1))) = some (r1, r2) := by first | (rw [hy990]; with_reducible exact H) | (have H2_ := (Option.bind_some _ _).symm.trans H; rw [hy990]; with_reducible exact H2_) | (have H2_ := (Option.bind_some _ _).symm.trans H; with_reducible exact H2_) | with_reducible exact H | (rw [hy990]; exact H) | exact H
           have Ny990 := Aside0.mk hy990
           clear hy990
           have H' := Aside0.mk H
           clear H
           have p986 : 0 ≤ (x23_1 : Int) := of_decide_eq_true (by first | (with_reducible assumption) | assumption)
           have q986 : x23_1 < (t979.length : Int) := of_decide_eq_true (by first | (with_reducible assumption) | assumption)
           obtain ⟨ad986, e986, hx986_0⟩ := Kd.at_int (Kd.V_reads' HO_1.out).2.2 x23_1 p986 q986
           cases e986
           replace p986 := eq_true p986
           replace q986 := eq_true q986
           have p987 : 0 ≤ (x23_1 : Int) := of_decide_eq_true (by first | (with_reducible assumption) | assumption)
           have q987 : x23_1 < (t976.length : Int) := of_decide_eq_true (by first | (with_reducible assumption) | assumption)
           obtain ⟨ad987, e987, hx987_0⟩ := Kd.at_int (Kd.V_reads' HO_0.out).2.2 x23_1 p987 q987
           cases e987
           replace p987 := eq_true p987
           replace q987 := eq_true q987
           go_wp2_with (first | ((with_reducible refine gate_callee (f := 97) rfl ?_); refine gl_ (some 43) Tryd.func97 #[.int .u32 (rd t976 x23_1), .int .u32 (rd t979 x23_1), .int .u32 x7_1] ?_; (with_reducible refine (bits_Sub32.calls (rd t976 x23_1) (rd t979 x23_1) x7_1 t988 t989 _ A25.out).mono ?_); rintro e w' ⟨rfl, ⟨nd, rfl⟩⟩; refine ⟨_, rfl, ?_⟩; (try (rw [drewN_self wr]; generalize hq_ : World.drewN wr _ = wr; have n0_ : Aside0 (Kd.V (Kd.int .u32) 53 wr w.heap.size (fun k_ => some k_ ≠ (v984 : Value).ownBlock) (.slice (some ad987) t976.length co16) t976) := ⟨by rw [← hq_]; exact (by (with_reducible repeat (first | apply Kd.V_alloc | apply Kd.V_drewN | apply Kd.V_drew)); exact HO_0.out)⟩; have n1_ : Aside0 (Kd.V (Kd.int .u32) 53 wr w.heap.size (fun k_ => some k_ ≠ (v984 : Value).ownBlock) (.slice (some ad986) t979.length co17) t979) := ⟨by rw [← hq_]; exact (by (with_reducible repeat (first | apply Kd.V_alloc | apply Kd.V_drewN | apply Kd.V_drew)); exact HO_1.out)⟩; have n2_ : Aside0 (Kd.R (Kd.int .u32) 53 wr w.heap.size (fun _ => True) v984 x6_1) := ⟨by rw [← hq_]; exact (kr_ HO_6.out)⟩; have n3_ : Aside0 (Below w.heap.size w wr) := ⟨by rw [← hq_]; exact (bw_ HB.out)⟩; clear HO_0 HO_1 HO_6 HB hq_; have HO_0 := n0_; have HO_1 := n1_; have HO_6 := n2_; have HB := n3_; clear n0_ n1_ n2_ n3_)); have p27 : 0 ≤ (x23_1 : Int) := of_decide_eq_true (by first | (with_reducible assumption) | assumption); have q27 : (x23_1 : Int) < ((x6_1.length : Int) : Int) := of_decide_eq_true (by first | (with_reducible assumption) | assumption); obtain ⟨go27, co27, eo27, gb27, gl27, cl27, HG27⟩ := Kd.R_form HO_6.out (by omega); (first | cases eo27 | (injection eo27 with ea_ en_ ec_; (first | subst ea_ | (injection ea_ with ea_; subst ea_)); subst ec_; clear en_)); have GB27 := Aside0.mk gb27; have GG27 := Aside0.mk HG27; clear gb27 gl27 HG27; obtain ⟨hx27_0, hf27_0⟩ := Kd.R_celln 0 HO_6.out (x23_1 : Int) p27 q27; replace p27 := eq_true p27; replace q27 := eq_true q27; obtain ⟨hy28_, hz28_⟩ := Kd.R_celln 0 HO_6.out (x23_1 : Int) (of_decide_eq_true (by first | (with_reducible assumption) | assumption)) (of_decide_eq_true (by first | (with_reducible assumption) | assumption)); have HP28 := Kd.R_putg HO_6.out (x23_1 : Int) t988) | ((with_reducible refine gate_store (t := 53) (p := 46) rfl ?_); refine store_event (t := 53) (p := 46) (v := ?vo_w29) (w1 := (wr.setCell ⟨go27, (x23_1 : Int).toNat, none⟩ (.int .u32 t988))) ?hg ?ho ?hn ?hr ?_; (case ho => rfl); (case hg => rfl); (case hn => rfl); (case hr => first | (go_simp; done) | (go_simp; rfl)); intro w29 hw; have hg : wr.grownBy w29 (some go27) := (by rw [hw]; exact HP28.2); have hp_ : Kd.R (Kd.int .u32) 53 w29 w.heap.size (fun _ => True) (.slice (some ⟨go27, 0, none⟩) x6_1.length co27) y990 := (by rw [hw, Ny990.out]; exact HP28.1); clear HP28; have n0_ := Aside0.mk (Kd.V_afterv (v := (.slice (some ⟨go27, 0, none⟩) x6_1.length co27)) (v1 := (.slice (some ⟨go27, 0, none⟩) x6_1.length co27)) (ok := (fun _ => True)) (by (with_reducible repeat (first | apply Kd.V_alloc | apply Kd.V_drewN | apply Kd.V_drew)); exact Kd.V_mono HO_0.out (fun _ hk => by first | exact ⟨trivial, hk⟩ | (simp only [ob_map] at hk ⊢; exact ⟨trivial, hk⟩))) hg (.inl rfl)); have n1_ := Aside0.mk (Kd.V_afterv (v := (.slice (some ⟨go27, 0, none⟩) x6_1.length co27)) (v1 := (.slice (some ⟨go27, 0, none⟩) x6_1.length co27)) (ok := (fun _ => True)) (by (with_reducible repeat (first | apply Kd.V_alloc | apply Kd.V_drewN | apply Kd.V_drew)); exact Kd.V_mono HO_1.out (fun _ hk => by first | exact ⟨trivial, hk⟩ | (simp only [ob_map] at hk ⊢; exact ⟨trivial, hk⟩))) hg (.inl rfl)); have n2_ := Aside0.mk (hp_); have n3_ := Aside0.mk ((by rw [hw]; exact below_set (HB.out) GB27.out : Below w.heap.size w w29)); clear HO_0; clear HO_1; clear HO_6; clear HB; have HO_0 := n0_; have HO_1 := n1_; have HO_6 := n2_; have HB := n3_; clear n0_ n1_ n2_ n3_; clear hg hw hp_))
           go_roundg k1
           case measure => have := HK1.out; omega
           case rel => exact ⟨(y990), (t989), (wrap64 (x23_1 + 1)), (by first | rfl | (simp; done) | (simp [*]; done)), (by first | rfl | (simp; done) | (simp [*]; done)), H', ⟨by have := HK1.out; omega⟩, ⟨by (with_reducible repeat (first | apply Kd.V_alloc | apply Kd.V_drewN | apply Kd.V_drew)); exact Kd.V_mono HO_0.out (fun _ hk => hk.2)⟩, ⟨by (with_reducible repeat (first | apply Kd.V_alloc | apply Kd.V_drewN | apply Kd.V_drew)); exact Kd.V_mono HO_1.out (fun _ hk => hk.2)⟩, ⟨by (with_reducible repeat (first | apply Kd.R_alloc | apply Kd.R_drewN | apply Kd.R_drew)); exact HO_6.out⟩, ⟨bw_ HB.out⟩⟩
          ·rw [if_neg c26] at H
           exact absurd H (by simp)
         ·rw [if_neg c24] at H
          exact absurd H (by simp)
        ·rw [if_neg c23] at H
         exact absurd H (by simp)
       ·rw [if_neg c22] at H
        have c22b0 : decide (x23_1 < (t979.length : Int)) = false := decide_eq_false c22
        clear c22
        by_cases c30 : 0 ≤ x23_1
        ·rw [if_pos c30] at H
         have c30b0 : decide (0 ≤ x23_1) = true := decide_eq_true c30
         clear c30
         by_cases c31 : x23_1 < (t976.length : Int)
         ·rw [if_pos c31] at H
          have c31b0 : decide (x23_1 < (t976.length : Int)) = true := decide_eq_true c31
          clear c31
          replace H := Option.bind_eq_some_iff.mp H
          obtain ⟨⟨t992, t993⟩, A320, H⟩ := H
          (try dsimp only at H)
          have A32 := Aside0.mk A320
          clear A320
          by_cases c33 : x23_1 < (x6_1.length : Int)
          ·rw [if_pos c33] at H
           have c33b0 : decide (x23_1 < (x6_1.length : Int)) = true := decide_eq_true c33
           clear c33
           obtain ⟨y994, hy994⟩ : ∃ y_ : List Int, y_ = (x6_1.set (x23_1 : Int).toNat t992) := ⟨_, rfl⟩
           replace H : (nat_Sub.l0 k1 t976 t979 y994 t993 (t976.length : Int) (wrap64 (x23_1 + 1))) = some (r1, r2) := by first | (rw [hy994]; with_reducible exact H) | (have H2_ := (Option.bind_some _ _).symm.trans H; rw [hy994]; with_reducible exact H2_) | (have H2_ := (Option.bind_some _ _).symm.trans H; with_reducible exact H2_) | with_reducible exact H | (rw [hy994]; exact H) | exact H
           have Ny994 := Aside0.mk hy994
           clear hy994
           have H' := Aside0.mk H
           clear H
           have p991 : 0 ≤ (x23_1 : Int) := of_decide_eq_true (by first | (with_reducible assumption) | assumption)
           have q991 : x23_1 < (t976.length : Int) := of_decide_eq_true (by first | (with_reducible assumption) | assumption)
           obtain ⟨ad991, e991, hx991_0⟩ := Kd.at_int (Kd.V_reads' HO_0.out).2.2 x23_1 p991 q991
           cases e991
           replace p991 := eq_true p991
           replace q991 := eq_true q991
           go_wp2_with (first | ((with_reducible refine gate_callee (f := 97) rfl ?_); refine gl_ (some 43) Tryd.func97 #[.int .u32 (rd t976 x23_1), .int .u32 0, .int .u32 x7_1] ?_; (with_reducible refine (bits_Sub32.calls (rd t976 x23_1) 0 x7_1 t992 t993 _ A32.out).mono ?_); rintro e w' ⟨rfl, ⟨nd, rfl⟩⟩; refine ⟨_, rfl, ?_⟩; (try (rw [drewN_self wr]; generalize hq_ : World.drewN wr _ = wr; have n0_ : Aside0 (Kd.V (Kd.int .u32) 53 wr w.heap.size (fun k_ => some k_ ≠ (v984 : Value).ownBlock) (.slice (some ad991) t976.length co16) t976) := ⟨by rw [← hq_]; exact (by (with_reducible repeat (first | apply Kd.V_alloc | apply Kd.V_drewN | apply Kd.V_drew)); exact HO_0.out)⟩; have n1_ : Aside0 (Kd.V (Kd.int .u32) 53 wr w.heap.size (fun k_ => some k_ ≠ (v984 : Value).ownBlock) (.slice Ao17 t979.length co17) t979) := ⟨by rw [← hq_]; exact (by (with_reducible repeat (first | apply Kd.V_alloc | apply Kd.V_drewN | apply Kd.V_drew)); exact HO_1.out)⟩; have n2_ : Aside0 (Kd.R (Kd.int .u32) 53 wr w.heap.size (fun _ => True) v984 x6_1) := ⟨by rw [← hq_]; exact (kr_ HO_6.out)⟩; have n3_ : Aside0 (Below w.heap.size w wr) := ⟨by rw [← hq_]; exact (bw_ HB.out)⟩; clear HO_0 HO_1 HO_6 HB hq_; have HO_0 := n0_; have HO_1 := n1_; have HO_6 := n2_; have HB := n3_; clear n0_ n1_ n2_ n3_)); have p34 : 0 ≤ (x23_1 : Int) := of_decide_eq_true (by first | (with_reducible assumption) | assumption); have q34 : (x23_1 : Int) < ((x6_1.length : Int) : Int) := of_decide_eq_true (by first | (with_reducible assumption) | assumption); obtain ⟨go34, co34, eo34, gb34, gl34, cl34, HG34⟩ := Kd.R_form HO_6.out (by omega); (first | cases eo34 | (injection eo34 with ea_ en_ ec_; (first | subst ea_ | (injection ea_ with ea_; subst ea_)); subst ec_; clear en_)); have GB34 := Aside0.mk gb34; have GG34 := Aside0.mk HG34; clear gb34 gl34 HG34; obtain ⟨hx34_0, hf34_0⟩ := Kd.R_celln 0 HO_6.out (x23_1 : Int) p34 q34; replace p34 := eq_true p34; replace q34 := eq_true q34; obtain ⟨hy35_, hz35_⟩ := Kd.R_celln 0 HO_6.out (x23_1 : Int) (of_decide_eq_true (by first | (with_reducible assumption) | assumption)) (of_decide_eq_true (by first | (with_reducible assumption) | assumption)); have HP35 := Kd.R_putg HO_6.out (x23_1 : Int) t992) | ((with_reducible refine gate_store (t := 53) (p := 46) rfl ?_); refine store_event (t := 53) (p := 46) (v := ?vo_w36) (w1 := (wr.setCell ⟨go34, (x23_1 : Int).toNat, none⟩ (.int .u32 t992))) ?hg ?ho ?hn ?hr ?_; (case ho => rfl); (case hg => rfl); (case hn => rfl); (case hr => first | (go_simp; done) | (go_simp; rfl)); intro w36 hw; have hg : wr.grownBy w36 (some go34) := (by rw [hw]; exact HP35.2); have hp_ : Kd.R (Kd.int .u32) 53 w36 w.heap.size (fun _ => True) (.slice (some ⟨go34, 0, none⟩) x6_1.length co34) y994 := (by rw [hw, Ny994.out]; exact HP35.1); clear HP35; have n0_ := Aside0.mk (Kd.V_afterv (v := (.slice (some ⟨go34, 0, none⟩) x6_1.length co34)) (v1 := (.slice (some ⟨go34, 0, none⟩) x6_1.length co34)) (ok := (fun _ => True)) (by (with_reducible repeat (first | apply Kd.V_alloc | apply Kd.V_drewN | apply Kd.V_drew)); exact Kd.V_mono HO_0.out (fun _ hk => by first | exact ⟨trivial, hk⟩ | (simp only [ob_map] at hk ⊢; exact ⟨trivial, hk⟩))) hg (.inl rfl)); have n1_ := Aside0.mk (Kd.V_afterv (v := (.slice (some ⟨go34, 0, none⟩) x6_1.length co34)) (v1 := (.slice (some ⟨go34, 0, none⟩) x6_1.length co34)) (ok := (fun _ => True)) (by (with_reducible repeat (first | apply Kd.V_alloc | apply Kd.V_drewN | apply Kd.V_drew)); exact Kd.V_mono HO_1.out (fun _ hk => by first | exact ⟨trivial, hk⟩ | (simp only [ob_map] at hk ⊢; exact ⟨trivial, hk⟩))) hg (.inl rfl)); have n2_ := Aside0.mk (hp_); have n3_ := Aside0.mk ((by rw [hw]; exact below_set (HB.out) GB34.out : Below w.heap.size w w36)); clear HO_0; clear HO_1; clear HO_6; clear HB; have HO_0 := n0_; have HO_1 := n1_; have HO_6 := n2_; have HB := n3_; clear n0_ n1_ n2_ n3_; clear hg hw hp_))
           go_roundg k1
           case measure => have := HK1.out; omega
           case rel => exact ⟨(y994), (t993), (wrap64 (x23_1 + 1)), (by first | rfl | (simp; done) | (simp [*]; done)), (by first | rfl | (simp; done) | (simp [*]; done)), H', ⟨by have := HK1.out; omega⟩, ⟨by (with_reducible repeat (first | apply Kd.V_alloc | apply Kd.V_drewN | apply Kd.V_drew)); exact Kd.V_mono HO_0.out (fun _ hk => hk.2)⟩, ⟨by (with_reducible repeat (first | apply Kd.V_alloc | apply Kd.V_drewN | apply Kd.V_drew)); exact Kd.V_mono HO_1.out (fun _ hk => hk.2)⟩, ⟨by (with_reducible repeat (first | apply Kd.R_alloc | apply Kd.R_drewN | apply Kd.R_drew)); exact HO_6.out⟩, ⟨bw_ HB.out⟩⟩
          ·rw [if_neg c33] at H
           exact absurd H (by simp)
         ·rw [if_neg c31] at H
          exact absurd H (by simp)
        ·rw [if_neg c30] at H
         exact absurd H (by simp)
      ·rw [if_neg c21] at H
       have c21b0 : decide (x23_1 < (t976.length : Int)) = false := decide_eq_false c21
       clear c21
       replace H := Option.bind_eq_some_iff.mp H
       obtain ⟨t995, A370, H⟩ := H
       (try dsimp only at H)
       have A37 := Aside0.mk A370
       clear A370
       simp only [Option.some.injEq, Prod.mk.injEq] at H
       obtain ⟨rfl, rfl⟩ := H
       obtain ⟨Ao38, co38, eo38⟩ := Kd.R_slice HO_6.out
       subst eo38
       go_wp2_with (first | ((with_reducible refine gate_callee (f := 66) rfl ?_); refine gl_ (some 49) Tryd.func66 #[.slice Ao38 x6_1.length co38] ?_; (with_reducible refine (nat_cut_own.calls k1 (fun k_ => some k_ = (.slice Ao38 x6_1.length co38 : Value).ownBlock) (.slice Ao38 x6_1.length co38) x6_1 t995 w _ ?side1 ?side2 A37.out).mono ?_); (case side1 => repeat (first | (with_reducible first | exact HB.out | apply below_alloc | apply pw_below_drewN | apply below_drew1) | exact HB.out)); (case side2 => exact Kd.R_tight rfl HO_6.out); rintro e w39 ⟨v996, rfl, ho0, hb, hkp⟩; refine ⟨_, rfl, ?_⟩; have HO997 := Aside0.mk (Kd.R_mono (ok' := fun k_ => True) ho0 (fun k_ hk_ => trivial)); replace HO_0 := Aside0.mk (Kd.V_mono (ok' := fun k_ => some k_ ≠ (v996 : Value).ownBlock) (Kd.V_keptB (HO_0.out) hkp (fun k_ hk_ hs_ => (hk_) hs_)) (fun k_ hk_ => fun e_ => Or.elim (ho0.1 k_ e_.symm) (fun hs_ => hk_.2.1 hs_) (fun hn_ => Nat.not_le.2 hk_.2.2 hn_))); replace HO_1 := Aside0.mk (Kd.V_mono (ok' := fun k_ => some k_ ≠ (v996 : Value).ownBlock) (Kd.V_keptB (HO_1.out) hkp (fun k_ hk_ hs_ => (hk_) hs_)) (fun k_ hk_ => fun e_ => Or.elim (ho0.1 k_ e_.symm) (fun hs_ => hk_.2.1 hs_) (fun hn_ => Nat.not_le.2 hk_.2.2 hn_))); replace HB := Aside0.mk (hb); clear HO_6; (try clear hb); (try clear hkp); (try clear ho0)))
       go_ret2
       exact ⟨_, rf_, by (with_reducible repeat (first | apply Kd.R_alloc | apply Kd.R_drewN | apply Kd.R_drew)); exact HO997.out, bw_ HB.out⟩
   ·rw [if_neg c13] at H
    exact absurd H (by simp)
  ·rw [if_neg c12] at H
   exact absurd H (by simp)

/-! ### whole_Add: function 92 -/
theorem whole_Add.tab2 : rtab .any (opsOf Tryd.f92 2) = whole_Add.T2 := by kernel_rfl
theorem whole_Add.bits2 : waitsOk whole_Add.T2.2 whole_Add.B2 = true := by kernel_rfl
set_option maxHeartbeats 8000000 in
set_option maxRecDepth 100000 in
theorem whole_Add.calls (k : Nat) (a0_0 : Bool) (A0_1 : Option Addr) (c0_1 : Nat) (l0_1 : List Int) (a1_0 : Bool) (A1_1 : Option Addr) (c1_1 : Nat) (l1_1 : List Int) (r1 : Bool) (r2 : List Int) (w : World) (hr0_1 : Kd.C (Kd.int .u32) w A0_1 l0_1.length l0_1) (hc0_1 : l0_1.length ≤ c0_1) (hr1_1 : Kd.C (Kd.int .u32) w A1_1 l1_1.length l1_1) (hc1_1 : l1_1.length ≤ c1_1) (h : whole_Add.f k a0_0 l0_1 a1_0 l1_1 = some (r1, r2)) :
  Calls Tryd.prog 92 #[.agg #[.bool a0_0, .slice A0_1 l0_1.length c0_1], .agg #[.bool a1_0, .slice A1_1 l1_1.length c1_1]] w fun e w' => ∃ v1_ : Value, e = .returned (.agg #[.bool r1, v1_]) ∧ Kd.R (Kd.int .u32) 53 w' w.heap.size (fun _ => True) v1_ r2 ∧ Below w.heap.size w w' := by
 have hu24 := Tryd.underlying24
 have HR0_1 := Aside0.mk hr0_1
 have HC0_1 := Aside0.mk hc0_1
 clear hr0_1 hc0_1
 have HR1_1 := Aside0.mk hr1_1
 have HC1_1 := Aside0.mk hc1_1
 clear hr1_1 hc1_1
 have HB := Aside0.mk (Below.refl w.heap.size w)
 have H : (if (a0_0 == a1_0) = true then ((nat_Add.f k l0_1 l1_1).bind fun t1001 => ((whole_Make.f k a0_0 t1001).bind fun bt1004 => (some (bt1004.1, bt1004.2)))) else ((nat_Sub.f k l0_1 l1_1).bind fun bt1008 => (if bt1008.2 = true then ((whole_Make.f k a0_0 bt1008.1).bind fun bt1012 => (some (bt1012.1, bt1012.2))) else ((nat_Sub.f k l1_1 l0_1).bind fun bt1016 => ((whole_Make.f k a1_0 bt1016.1).bind fun bt1020 => (some (bt1020.1, bt1020.2))))))) = some (r1, r2) := h
 clear h
 by_cases c3 : (a0_0 == a1_0) = true
 ·rw [if_pos c3] at H
  have c3b0 : (a0_0 == a1_0) = true := c3
  (try (have c3b1 : decide (a0_0 = a1_0) = true := by simpa using c3))
  (try (have c3b2 : (a0_0 == a1_0) = true := by simpa using c3))
  clear c3
  replace H := Option.bind_eq_some_iff.mp H
  obtain ⟨t1001, A40, H⟩ := H
  (try dsimp only at H)
  have A4 := Aside0.mk A40
  clear A40
  replace H := Option.bind_eq_some_iff.mp H
  obtain ⟨⟨t1004, t1005⟩, A50, H⟩ := H
  (try dsimp only at H)
  have A5 := Aside0.mk A50
  clear A50
  simp only [Option.some.injEq, Prod.mk.injEq] at H
  obtain ⟨rfl, rfl⟩ := H
  go_enter Tryd.func92, Tryd.ntmps92
  try go_wp2_with (first | ((with_reducible refine gate_dst (N := 2) rfl ?_); refine bx_ 2 #[.bool a0_0, .slice A0_1 l0_1.length c0_1] 24 ?_; intro gb998 hg w6 hbox hb; have BK998 := Aside0.mk (hbox); have GW998 := ge_ hg HB; have GE998 := ge_ hg HB; replace HB := bq_ HB hb; clear hb hbox hg) | ((with_reducible refine gate_dst (N := 3) rfl ?_); refine bx_ 3 #[.bool a1_0, .slice A1_1 l1_1.length c1_1] 24 ?_; intro gb999 hg w7 hbox hb; have BK999 := Aside0.mk (hbox); have GW999 := ge_ hg HB; have GE999 := ge_ hg HB; have NB998_999 := nb_ hg BK998; have NB999_998 := nc_ hg BK998; replace BK998 := kq_ BK998 hb; replace HB := bq_ HB hb; clear hb hbox hg) | ((with_reducible refine gate_dst (N := 4) rfl ?_); refine bx_ 4 #[.bool false, .slice none 0 0] 24 ?_; intro gb1000 hg w8 hbox hb; have BK1000 := Aside0.mk (hbox); have GW1000 := ge_ hg HB; have GE1000 := ge_ hg HB; have NB998_1000 := nb_ hg BK998; have NB1000_998 := nc_ hg BK998; have NB999_1000 := nb_ hg BK999; have NB1000_999 := nc_ hg BK999; replace BK998 := kq_ BK998 hb; replace BK999 := kq_ BK999 hb; replace HB := bq_ HB hb; clear hb hbox hg; have hnb9 := NB998_999.out; have hnc9 := NB999_998.out; have hnb10 := NB998_1000.out; have hnc10 := NB1000_998.out; obtain ⟨hcz11_0, hcz11_1, hfz11_0, hfz11_1⟩ := c2_ BK998; have hnb12 := NB999_1000.out; have hnc12 := NB1000_999.out; obtain ⟨hcz13_0, hcz13_1, hfz13_0, hfz13_1⟩ := c2_ BK999))
  replace BK998 := Aside0.mk (blk_drew BK998.out)
  replace BK999 := Aside0.mk (blk_drew BK999.out)
  replace BK1000 := Aside0.mk (blk_drew BK1000.out)
  replace HB := Aside0.mk (below_drew1 HB.out)
  refine start_ (n := 9) (S := fun w' => w'.cell? ⟨gb998, 0, none⟩ = some (.bool a0_0) ∧ w'.cell? ⟨gb998, 1, none⟩ = some (.slice A0_1 l0_1.length c0_1) ∧ w'.cell? ⟨gb999, 0, none⟩ = some (.bool a1_0) ∧ w'.cell? ⟨gb999, 1, none⟩ = some (.slice A1_1 l1_1.length c1_1)) (ds := []) #[false, false, false, false, false, false, false, false, false] (by kernel_rfl) rfl rfl ⟨(blk_cell BK998.out 0).trans rfl, (blk_cell BK998.out 1).trans rfl, (blk_cell BK999.out 0).trans rfl, (blk_cell BK999.out 1).trans rfl⟩ (fun hHeld => ?_); refine with_tabW whole_Add.tab2 whole_Add.bits2 (fun HT_ HW_ => ?_)
  generalize w8.drew = w14 at BK998 BK999 BK1000 HB hHeld ⊢
  refine pure_ (i := 0) (N := some 14) (v := ?_) (a' := ?_) #[true, false, false, false, false, false, false, false, false] rfl rfl (any_of HT_.out (by kernel_rfl)) (fun _ _ _ h => h) (Or.inl ⟨by rfl, ?_⟩) ?_ ?_
  rotate_left
  ·intro w'
   go_simp
   with_reducible rfl
  rotate_left
  ·exact pt_
  refine pure_ (i := 2) (N := some 16) (v := ?_) (a' := ?_) #[true, false, true, false, false, false, false, false, false] rfl rfl (any_of HT_.out (by kernel_rfl)) (fun _ _ _ h => h) (Or.inl ⟨by rfl, ?_⟩) ?_ ?_
  rotate_left
  ·intro w'
   go_simp
   with_reducible rfl
  rotate_left
  ·exact pt_
  refine pure_ (i := 4) (N := some 18) (v := ?_) (a' := ?_) #[true, false, true, false, true, false, false, false, false] rfl rfl (any_of HT_.out (by kernel_rfl)) (fun _ _ _ h => h) (Or.inl ⟨by rfl, ?_⟩) ?_ ?_
  rotate_left
  ·intro w'
   go_simp
   with_reducible rfl
  rotate_left
  ·exact pt_
  refine take_ (i := 1) (N := some 15) (v := ?_) (a' := ?_) #[true, true, true, false, true, false, false, false, false] rfl rfl (take_ofW HT_.out HW_.out (by kernel_rfl)) (fun _ _ _ h => h) (Or.inl ⟨by rfl, ?_⟩) hHeld ?_ ?_
  rotate_left
  ·rintro w' ⟨s0, s1, s2, s3⟩
   go_simp
   with_reducible rfl
  rotate_left
  ·exact pt_
  refine take_ (i := 3) (N := some 17) (v := ?_) (a' := ?_) #[true, true, true, true, true, false, false, false, false] rfl rfl (take_ofW HT_.out HW_.out (by kernel_rfl)) (fun _ _ _ h => h) (Or.inl ⟨by rfl, ?_⟩) hHeld ?_ ?_
  rotate_left
  ·rintro w' ⟨s0, s1, s2, s3⟩
   go_simp
   with_reducible rfl
  rotate_left
  ·exact pt_
  refine take_ (i := 5) (N := some 19) (v := ?_) (a' := ?_) #[true, true, true, true, true, true, false, false, false] rfl rfl (take_ofW HT_.out HW_.out (by kernel_rfl)) (fun _ _ _ h => h) (Or.inl ⟨by rfl, ?_⟩) hHeld ?_ ?_
  rotate_left
  ·rintro w' ⟨s0, s1, s2, s3⟩
   go_simp
   with_reducible rfl
  rotate_left
  ·exact pt_
  refine one_ (i := 6) (N := some 20) #[true, true, true, true, true, true, true, false, false] rfl rfl (one_of HT_.out (by kernel_rfl)) (by decide) (fun K hK => ?_)
  refine gs_ Tryd.func93 #[.slice A0_1 l0_1.length c0_1, .slice A1_1 l1_1.length c1_1] ?_
  with_reducible refine (nat_Add.calls k _ _ l0_1 _ _ l1_1 t1001 _ ?side1 ?side2 ?side3 ?side4 A4.out).mono ?_
  (case side1 => exact kc_ (Kd.C_below HR0_1.out HB.out))
  (case side2 => exact HC0_1.out)
  (case side3 => exact kc_ (Kd.C_below HR1_1.out HB.out))
  (case side4 => exact HC1_1.out)
  rintro e w15 ⟨v1002, rfl, ho0, hb⟩
  refine ⟨_, rfl, ?_⟩
  have HO1003 := Aside0.mk (Kd.R_lower ho0 (below_size (bw_ HB.out)))
  replace BK998 := kq_ BK998 hb
  replace BK999 := kq_ BK999 hb
  replace BK1000 := kq_ BK1000 hb
  replace HB := bq_ HB hb
  (try clear hb)
  (try clear hb2)
  (try clear hk)
  (try clear hi)
  (try clear ho0)
  obtain ⟨Ao16, co16, eo16⟩ := Kd.R_slice HO1003.out
  (first | subst eo16 | (injection eo16 with f1_ f2_ f3_; have f4_ := f1_.symm; have f5_ := f3_.symm; clear f1_ f2_ f3_; subst f4_; subst f5_))
  refine hK.out _ _ ⟨(blk_cell BK998.out 0).trans rfl, (blk_cell BK998.out 1).trans rfl, (blk_cell BK999.out 0).trans rfl, (blk_cell BK999.out 1).trans rfl⟩ (fun hHeld => ?_)
  clear hK K
  refine norm_ (a' := ?_) ?_ ?_
  rotate_left
  ·show Act.put _ (some 20) _ = _
   exact pt_
  refine one_ (i := 7) (N := some 21) #[true, true, true, true, true, true, true, true, false] rfl rfl (one_of HT_.out (by kernel_rfl)) (by decide) (fun K hK => ?_)
  refine gs_ Tryd.func59 #[.bool a0_0, .slice Ao16 t1001.length co16] ?_
  with_reducible refine (whole_Make.calls k a0_0 _ _ t1001 t1004 t1005 _ ?side1 ?side2 A5.out).mono ?_
  (case side1 => exact kc_ (Kd.R_reads' HO1003.out).2.2)
  (case side2 => exact (Kd.R_reads' HO1003.out).2.1)
  rintro e w17 ⟨v1006, rfl, ho0, hb⟩
  refine ⟨_, rfl, ?_⟩
  have HO1007 := Aside0.mk (Kd.R_lower (Kd.R_new' ho0 (Kd.R_lt (kr_ HO1003.out))) (below_size (bw_ HB.out)))
  replace HO1003 := Aside0.mk (Kd.R_elder' (kr_ HO1003.out) (Kd.R_base ho0) hb)
  replace BK998 := kq_ BK998 hb
  replace BK999 := kq_ BK999 hb
  replace BK1000 := kq_ BK1000 hb
  replace HB := bq_ HB hb
  (try clear hb)
  (try clear hb2)
  (try clear hk)
  (try clear hi)
  (try clear ho0)
  obtain ⟨Ao19, co19, eo19⟩ := Kd.R_slice HO1007.out
  (first | subst eo19 | (injection eo19 with f1_ f2_ f3_; have f4_ := f1_.symm; have f5_ := f3_.symm; clear f1_ f2_ f3_; subst f4_; subst f5_))
  refine hK.out _ _ ⟨(blk_cell BK998.out 0).trans rfl, (blk_cell BK998.out 1).trans rfl, (blk_cell BK999.out 0).trans rfl, (blk_cell BK999.out 1).trans rfl⟩ (fun hHeld => ?_)
  clear hK K
  refine norm_ (a' := ?_) ?_ ?_
  rotate_left
  ·show Act.put _ (some 21) _ = _
   exact pt_
  refine one_ (i := 8) (N := none) #[true, true, true, true, true, true, true, true, true] rfl rfl (one_of HT_.out (by kernel_rfl)) (by decide) (fun K hK => ?_)
  have hs18 : w17.cell? ⟨gb1000, 0, none⟩ = some (.bool false) := (blk_cell BK1000.out 0).trans rfl
  have hfs18 := fz_ BK1000 0
  have hns18_0 := NB998_1000.out
  have hns18_1 := NB999_1000.out
  have hms18_0 := NB1000_998.out
  have hms18_1 := NB1000_999.out
  have hs20 : w17.cell? ⟨gb1000, 1, none⟩ = some (.slice none 0 0) := (blk_cell BK1000.out 1).trans rfl
  have hfs20 := fz_ BK1000 1
  have hns20_0 := NB998_1000.out
  have hns20_1 := NB999_1000.out
  have hms20_0 := NB1000_998.out
  have hms20_1 := NB1000_999.out
  refine skip_ (w1 := ?_) (by rfl) rfl ?_ ?_
  rotate_left
  ·go_simp
   rfl
  refine hK.out _ _ ⟨((cell_far (p := ⟨gb1000, _, none⟩) NB998_1000.out _).trans (((cell_far (p := ⟨gb1000, _, none⟩) NB998_1000.out _).trans (hHeld.1)))), ((cell_far (p := ⟨gb1000, _, none⟩) NB998_1000.out _).trans (((cell_far (p := ⟨gb1000, _, none⟩) NB998_1000.out _).trans (hHeld.2.1)))), ((cell_far (p := ⟨gb1000, _, none⟩) NB999_1000.out _).trans (((cell_far (p := ⟨gb1000, _, none⟩) NB999_1000.out _).trans (hHeld.2.2.1)))), ((cell_far (p := ⟨gb1000, _, none⟩) NB999_1000.out _).trans (((cell_far (p := ⟨gb1000, _, none⟩) NB999_1000.out _).trans (hHeld.2.2.2))))⟩ (fun hHeld => ?_)
  clear hK K
  refine done_ (done_of HT_.out (by kernel_rfl)) ?_
  try go_wp2
  refine bodyPost_ret (results_cell_row rfl _ _ gb1000 24 #[.bool t1004, .slice Ao19 t1005.length co19] (0, 0) _ rfl (by refine kb_ ?_; refine bp_ #[.bool t1004, .slice none 0 0] 1 ?_; refine bp_ #[.bool false, .slice none 0 0] 0 ?_; exact BK1000.out) Tryd.underlying24 rfl (by kernel_rfl)) rfl ?_
  exact ⟨_, rf_, by (with_reducible repeat (first | apply Kd.R_alloc | apply Kd.R_drewN | apply Kd.R_drew)); exact Kd.R_mono (Kd.R_far (p := ⟨gb1000, 1, none⟩) (Kd.R_far (p := ⟨gb1000, 0, none⟩) (Kd.R_types HO1007.out BK1000.out (by decide)) (fun _ hk => hk.2) (.bool t1004)) (fun _ hk => hk.2) (.slice Ao19 t1005.length co19)) (fun _ hk => trivial), bw_ HB.out⟩
 ·rw [if_neg c3] at H
  have c3b0 : (a0_0 == a1_0) = false := by simpa using c3
  (try (have c3b1 : decide (a0_0 = a1_0) = false := by simpa using c3))
  (try (have c3b2 : (a0_0 == a1_0) = false := by simpa using c3))
  (try (have c3b3 : ¬ (a0_0 = a1_0) := by simpa using c3))
  clear c3
  replace H := Option.bind_eq_some_iff.mp H
  obtain ⟨⟨t1008, t1009⟩, A210, H⟩ := H
  (try dsimp only at H)
  have A21 := Aside0.mk A210
  clear A210
  by_cases c22 : t1009 = true
  ·subst c22
   have H1 : ((whole_Make.f k a0_0 t1008).bind fun bt1012 => (some (bt1012.1, bt1012.2))) = some (r1, r2) := by rw [if_pos rfl] at H; exact H
   clear H
   have H := H1
   clear H1
   replace H := Option.bind_eq_some_iff.mp H
   obtain ⟨⟨t1012, t1013⟩, A230, H⟩ := H
   (try dsimp only at H)
   have A23 := Aside0.mk A230
   clear A230
   simp only [Option.some.injEq, Prod.mk.injEq] at H
   obtain ⟨rfl, rfl⟩ := H
   go_enter Tryd.func92, Tryd.ntmps92
   go_wp2_with (first | ((with_reducible refine gate_dst (N := 2) rfl ?_); refine bx_ 2 #[.bool a0_0, .slice A0_1 l0_1.length c0_1] 24 ?_; intro gb998 hg w24 hbox hb; have BK998 := Aside0.mk (hbox); have GW998 := ge_ hg HB; have GE998 := ge_ hg HB; replace HB := bq_ HB hb; clear hb hbox hg) | ((with_reducible refine gate_dst (N := 3) rfl ?_); refine bx_ 3 #[.bool a1_0, .slice A1_1 l1_1.length c1_1] 24 ?_; intro gb999 hg w25 hbox hb; have BK999 := Aside0.mk (hbox); have GW999 := ge_ hg HB; have GE999 := ge_ hg HB; have NB998_999 := nb_ hg BK998; have NB999_998 := nc_ hg BK998; replace BK998 := kq_ BK998 hb; replace HB := bq_ HB hb; clear hb hbox hg) | ((with_reducible refine gate_dst (N := 4) rfl ?_); refine bx_ 4 #[.bool false, .slice none 0 0] 24 ?_; intro gb1000 hg w26 hbox hb; have BK1000 := Aside0.mk (hbox); have GW1000 := ge_ hg HB; have GE1000 := ge_ hg HB; have NB998_1000 := nb_ hg BK998; have NB1000_998 := nc_ hg BK998; have NB999_1000 := nb_ hg BK999; have NB1000_999 := nc_ hg BK999; replace BK998 := kq_ BK998 hb; replace BK999 := kq_ BK999 hb; replace HB := bq_ HB hb; clear hb hbox hg; have hnb27 := NB998_999.out; have hnc27 := NB999_998.out; have hnb28 := NB998_1000.out; have hnc28 := NB1000_998.out; obtain ⟨hcz29_0, hcz29_1, hfz29_0, hfz29_1⟩ := c2_ BK998; have hnb30 := NB999_1000.out; have hnc30 := NB1000_999.out; obtain ⟨hcz31_0, hcz31_1, hfz31_0, hfz31_1⟩ := c2_ BK999) | ((with_reducible refine gate_callee (f := 94) rfl ?_); refine gl_ (some 27) Tryd.func94 #[.slice A0_1 l0_1.length c0_1, .slice A1_1 l1_1.length c1_1] ?_; (with_reducible refine (nat_Sub.calls k _ _ l0_1 _ _ l1_1 t1008 true _ ?side1 ?side2 ?side3 ?side4 A21.out).mono ?_); (case side1 => exact kc_ (Kd.C_below HR0_1.out HB.out)); (case side2 => exact HC0_1.out); (case side3 => exact kc_ (Kd.C_below HR1_1.out HB.out)); (case side4 => exact HC1_1.out); rintro e w32 ⟨v1010, rfl, ho0, hb⟩; refine ⟨_, rfl, ?_⟩; have HO1011 := Aside0.mk (Kd.R_lower ho0 (below_size (bw_ HB.out))); replace BK998 := kq_ BK998 hb; replace BK999 := kq_ BK999 hb; replace BK1000 := kq_ BK1000 hb; replace HB := bq_ HB hb; (try clear hb); (try clear hb2); (try clear hk); (try clear hi); (try clear ho0); obtain ⟨hcz33_0, hcz33_1, hfz33_0, hfz33_1⟩ := c2_ BK998; obtain ⟨Ao34, co34, eo34⟩ := Kd.R_slice HO1011.out; subst eo34) | ((with_reducible refine gate_callee (f := 59) rfl ?_); refine gl_ (some 34) Tryd.func59 #[.bool a0_0, .slice Ao34 t1008.length co34] ?_; (with_reducible refine (whole_Make.calls k a0_0 _ _ t1008 t1012 t1013 _ ?side1 ?side2 A23.out).mono ?_); (case side1 => exact kc_ (Kd.R_reads' HO1011.out).2.2); (case side2 => exact (Kd.R_reads' HO1011.out).2.1); rintro e w35 ⟨v1014, rfl, ho0, hb⟩; refine ⟨_, rfl, ?_⟩; have HO1015 := Aside0.mk (Kd.R_lower (Kd.R_new' ho0 (Kd.R_lt (kr_ HO1011.out))) (below_size (bw_ HB.out))); replace HO1011 := Aside0.mk (Kd.R_elder' (kr_ HO1011.out) (Kd.R_base ho0) hb); replace BK998 := kq_ BK998 hb; replace BK999 := kq_ BK999 hb; replace BK1000 := kq_ BK1000 hb; replace HB := bq_ HB hb; (try clear hb); (try clear hb2); (try clear hk); (try clear hi); (try clear ho0); obtain ⟨hcz36_0, hcz36_1, hfz36_0, hfz36_1⟩ := c2_ BK1000; obtain ⟨Ao37, co37, eo37⟩ := Kd.R_slice HO1015.out; subst eo37))
   refine bodyPost_ret (results_cell_row rfl _ _ gb1000 24 #[.bool t1012, .slice Ao37 t1013.length co37] (0, 0) _ rfl (by refine kb_ ?_; refine bp_ #[.bool t1012, .slice none 0 0] 1 ?_; refine bp_ #[.bool false, .slice none 0 0] 0 ?_; exact BK1000.out) Tryd.underlying24 rfl (by kernel_rfl)) rfl ?_
   exact ⟨_, rf_, by (with_reducible repeat (first | apply Kd.R_alloc | apply Kd.R_drewN | apply Kd.R_drew)); exact Kd.R_mono (Kd.R_far (p := ⟨gb1000, 1, none⟩) (Kd.R_far (p := ⟨gb1000, 0, none⟩) (Kd.R_types HO1015.out BK1000.out (by decide)) (fun _ hk => hk.2) (.bool t1012)) (fun _ hk => hk.2) (.slice Ao37 t1013.length co37)) (fun _ hk => trivial), bw_ HB.out⟩
  ·replace c22 := Bool.eq_false_iff.mpr c22
   subst c22
   have H1 : ((nat_Sub.f k l1_1 l0_1).bind fun bt1016 => ((whole_Make.f k a1_0 bt1016.1).bind fun bt1020 => (some (bt1020.1, bt1020.2)))) = some (r1, r2) := by rw [if_neg (show ¬ (false = true) by decide)] at H; exact H
   clear H
   have H := H1
   clear H1
   replace H := Option.bind_eq_some_iff.mp H
   obtain ⟨⟨t1016, t1017⟩, A380, H⟩ := H
   (try dsimp only at H)
   have A38 := Aside0.mk A380
   clear A380
   replace H := Option.bind_eq_some_iff.mp H
   obtain ⟨⟨t1020, t1021⟩, A390, H⟩ := H
   (try dsimp only at H)
   have A39 := Aside0.mk A390
   clear A390
   simp only [Option.some.injEq, Prod.mk.injEq] at H
   obtain ⟨rfl, rfl⟩ := H
   go_enter Tryd.func92, Tryd.ntmps92
   go_wp2_with (first | ((with_reducible refine gate_dst (N := 2) rfl ?_); refine bx_ 2 #[.bool a0_0, .slice A0_1 l0_1.length c0_1] 24 ?_; intro gb998 hg w40 hbox hb; have BK998 := Aside0.mk (hbox); have GW998 := ge_ hg HB; have GE998 := ge_ hg HB; replace HB := bq_ HB hb; clear hb hbox hg) | ((with_reducible refine gate_dst (N := 3) rfl ?_); refine bx_ 3 #[.bool a1_0, .slice A1_1 l1_1.length c1_1] 24 ?_; intro gb999 hg w41 hbox hb; have BK999 := Aside0.mk (hbox); have GW999 := ge_ hg HB; have GE999 := ge_ hg HB; have NB998_999 := nb_ hg BK998; have NB999_998 := nc_ hg BK998; replace BK998 := kq_ BK998 hb; replace HB := bq_ HB hb; clear hb hbox hg) | ((with_reducible refine gate_dst (N := 4) rfl ?_); refine bx_ 4 #[.bool false, .slice none 0 0] 24 ?_; intro gb1000 hg w42 hbox hb; have BK1000 := Aside0.mk (hbox); have GW1000 := ge_ hg HB; have GE1000 := ge_ hg HB; have NB998_1000 := nb_ hg BK998; have NB1000_998 := nc_ hg BK998; have NB999_1000 := nb_ hg BK999; have NB1000_999 := nc_ hg BK999; replace BK998 := kq_ BK998 hb; replace BK999 := kq_ BK999 hb; replace HB := bq_ HB hb; clear hb hbox hg; have hnb43 := NB998_999.out; have hnc43 := NB999_998.out; have hnb44 := NB998_1000.out; have hnc44 := NB1000_998.out; obtain ⟨hcz45_0, hcz45_1, hfz45_0, hfz45_1⟩ := c2_ BK998; have hnb46 := NB999_1000.out; have hnc46 := NB1000_999.out; obtain ⟨hcz47_0, hcz47_1, hfz47_0, hfz47_1⟩ := c2_ BK999) | ((with_reducible refine gate_callee (f := 94) rfl ?_); refine gl_ (some 27) Tryd.func94 #[.slice A0_1 l0_1.length c0_1, .slice A1_1 l1_1.length c1_1] ?_; (with_reducible refine (nat_Sub.calls k _ _ l0_1 _ _ l1_1 t1008 false _ ?side1 ?side2 ?side3 ?side4 A21.out).mono ?_); (case side1 => exact kc_ (Kd.C_below HR0_1.out HB.out)); (case side2 => exact HC0_1.out); (case side3 => exact kc_ (Kd.C_below HR1_1.out HB.out)); (case side4 => exact HC1_1.out); rintro e w48 ⟨v1010, rfl, ho0, hb⟩; refine ⟨_, rfl, ?_⟩; have HO1011 := Aside0.mk (Kd.R_lower ho0 (below_size (bw_ HB.out))); replace BK998 := kq_ BK998 hb; replace BK999 := kq_ BK999 hb; replace BK1000 := kq_ BK1000 hb; replace HB := bq_ HB hb; (try clear hb); (try clear hb2); (try clear hk); (try clear hi); (try clear ho0); obtain ⟨hcz49_0, hcz49_1, hfz49_0, hfz49_1⟩ := c2_ BK999; obtain ⟨hcz50_0, hcz50_1, hfz50_0, hfz50_1⟩ := c2_ BK998) | ((with_reducible refine gate_callee (f := 94) rfl ?_); refine gl_ (some 40) Tryd.func94 #[.slice A1_1 l1_1.length c1_1, .slice A0_1 l0_1.length c0_1] ?_; (with_reducible refine (nat_Sub.calls k _ _ l1_1 _ _ l0_1 t1016 t1017 _ ?side1 ?side2 ?side3 ?side4 A38.out).mono ?_); (case side1 => exact kc_ (Kd.C_below HR1_1.out HB.out)); (case side2 => exact HC1_1.out); (case side3 => exact kc_ (Kd.C_below HR0_1.out HB.out)); (case side4 => exact HC0_1.out); rintro e w51 ⟨v1018, rfl, ho0, hb⟩; refine ⟨_, rfl, ?_⟩; have HO1019 := Aside0.mk (Kd.R_lower (Kd.R_new' ho0 (Kd.R_lt (kr_ HO1011.out))) (below_size (bw_ HB.out))); replace HO1011 := Aside0.mk (Kd.R_elder' (kr_ HO1011.out) (Kd.R_base ho0) hb); replace BK998 := kq_ BK998 hb; replace BK999 := kq_ BK999 hb; replace BK1000 := kq_ BK1000 hb; replace HB := bq_ HB hb; (try clear hb); (try clear hb2); (try clear hk); (try clear hi); (try clear ho0); obtain ⟨hcz52_0, hcz52_1, hfz52_0, hfz52_1⟩ := c2_ BK999; obtain ⟨Ao53, co53, eo53⟩ := Kd.R_slice HO1019.out; subst eo53) | ((with_reducible refine gate_callee (f := 59) rfl ?_); refine gl_ (some 46) Tryd.func59 #[.bool a1_0, .slice Ao53 t1016.length co53] ?_; (with_reducible refine (whole_Make.calls k a1_0 _ _ t1016 t1020 t1021 _ ?side1 ?side2 A39.out).mono ?_); (case side1 => exact kc_ (Kd.R_reads' HO1019.out).2.2); (case side2 => exact (Kd.R_reads' HO1019.out).2.1); rintro e w54 ⟨v1022, rfl, ho0, hb⟩; refine ⟨_, rfl, ?_⟩; have HO1023 := Aside0.mk (Kd.R_lower (Kd.R_new' (Kd.R_new' ho0 (Kd.R_lt (kr_ HO1011.out))) (Kd.R_lt (kr_ HO1019.out))) (below_size (bw_ HB.out))); replace HO1011 := Aside0.mk (Kd.R_elder' (kr_ HO1011.out) (Kd.R_base ho0) hb); replace HO1019 := Aside0.mk (Kd.R_elder' (kr_ HO1019.out) (Kd.R_base ho0) hb); replace BK998 := kq_ BK998 hb; replace BK999 := kq_ BK999 hb; replace BK1000 := kq_ BK1000 hb; replace HB := bq_ HB hb; (try clear hb); (try clear hb2); (try clear hk); (try clear hi); (try clear ho0); obtain ⟨hcz55_0, hcz55_1, hfz55_0, hfz55_1⟩ := c2_ BK1000; obtain ⟨Ao56, co56, eo56⟩ := Kd.R_slice HO1023.out; subst eo56))
   refine bodyPost_ret (results_cell_row rfl _ _ gb1000 24 #[.bool t1020, .slice Ao56 t1021.length co56] (0, 0) _ rfl (by refine kb_ ?_; refine bp_ #[.bool t1020, .slice none 0 0] 1 ?_; refine bp_ #[.bool false, .slice none 0 0] 0 ?_; exact BK1000.out) Tryd.underlying24 rfl (by kernel_rfl)) rfl ?_
   exact ⟨_, rf_, by (with_reducible repeat (first | apply Kd.R_alloc | apply Kd.R_drewN | apply Kd.R_drew)); exact Kd.R_mono (Kd.R_far (p := ⟨gb1000, 1, none⟩) (Kd.R_far (p := ⟨gb1000, 0, none⟩) (Kd.R_types HO1023.out BK1000.out (by decide)) (fun _ hk => hk.2) (.bool t1020)) (fun _ hk => hk.2) (.slice Ao56 t1021.length co56)) (fun _ hk => trivial), bw_ HB.out⟩

end Go.Proofs.YtkemnoejpbknhaaDoor.PA
