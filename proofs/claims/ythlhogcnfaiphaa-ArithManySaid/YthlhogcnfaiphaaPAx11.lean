-- Laid by this work's own program; Lean checks it.
import Derived.Test.YthlhogcnfaiphaaPAx0
import Derived.Test.YthlhogcnfaiphaaPAx2
import Derived.Test.YthlhogcnfaiphaaPAx8
namespace Go.Proofs.Ythlhogcnfaiphaa.PA
open Go.RowKit Go.Proofs.YthlhogcnfaiphaaW.PrintWords Go.Proofs.YthlhogcnfaiphaaW.PrintLast Go.Proofs.YthlhogcnfaiphaaW.PrintMore
attribute [local go_sem] max2_int min2_int max_two min_two max_three min_three max_four min_four   -- for this text's walks alone
set_option linter.unusedVariables false
set_option linter.unusedSimpArgs false

attribute [local go_sem ↓ high] isSome_set_
/-! ### pelorusref01_Mul: function 70 -/
set_option maxHeartbeats 8000000 in
set_option maxRecDepth 100000 in
theorem pelorusref01_Mul.calls (k : Nat) (A0 : Option Addr) (c0 : Nat) (l0 : List Int) (A1 : Option Addr) (c1 : Nat) (l1 : List Int) (r : List Int) (w : World) (hr0 : Kd.C (Kd.int .u32) w A0 l0.length l0) (hc0 : l0.length ≤ c0) (hr1 : Kd.C (Kd.int .u32) w A1 l1.length l1) (hc1 : l1.length ≤ c1) (h : pelorusref01_Mul.f k l0 l1 = some r) :
  Calls Try.prog 70 #[.slice A0 l0.length c0, .slice A1 l1.length c1] w fun e w' => ∃ v0_ : Value, e = .returned (v0_) ∧ Kd.R (Kd.int .u32) 68 w' w.heap.size (fun _ => True) v0_ r ∧ Below w.heap.size w w' := by
 have HR0 := Aside0.mk hr0
 have HC0 := Aside0.mk hc0
 clear hr0 hc0
 have HR1 := Aside0.mk hr1
 have HC1 := Aside0.mk hc1
 clear hr1 hc1
 have HB := Aside0.mk (Below.refl w.heap.size w)
 have H : (pelorusref01_Mul.l0 k l0 l1 ([] : List Int) (wrap64 ((l1.length : Int) - 1))) = some r := h
 clear h
 have H' := Aside0.mk H
 clear H
 go_enter Try.func70, Try.ntmps70
 go_wp2
 repeat (go_quiet (fail); try go_wp2)
 go_loopg [5, 6] k (fun kq v5 v6 w' => ∃ (x5_1 : List Int) (x6_1 : Int), v6 = .int .i64 x6_1 ∧ Aside0 (pelorusref01_Mul.l0 kq l0 l1 x5_1 x6_1 = some r) ∧ Aside0 (kq ≤ k) ∧ Aside0 (Kd.R (Kd.int .u32) 68 w' w.heap.size (fun _ => True) v5 x5_1) ∧ Aside0 (Below w.heap.size w w'))
 case atStart => exact ⟨(([] : List Int)), (wrap64 ((l1.length : Int) - 1)), (by first | rfl | (simp; done) | (simp [*]; done)), H', ⟨Nat.le_refl _⟩, ⟨by first | exact Kd.R_nil _ _ _ _ _ | exact Kd.N_nil _ _ _ _ _ | exact Kd.V_nil _ _ _ _ _ | exact Kd.Q_nil _ _ _ _ _ | exact Kd.S_nil _ _ _ _ _⟩, ⟨bw_ HB.out⟩⟩
 case round =>
  clear H'
  try clear c1
  try clear p2
  obtain ⟨x5_1, x6_1, rfl, HA, HK1, HO_5, HB⟩ := hrel
  cases gk with
  | zero => exact absurd HA.out (by simp [pelorusref01_Mul.l0])
  | succ k1 =>
   have H := HA.out
   clear HA
   simp only [pelorusref01_Mul.l0] at H
   by_cases c3 : x6_1 ≥ 0
   ·rw [if_pos c3] at H
    have c3b0 : decide (0 ≤ x6_1) = true := decide_eq_true c3
    clear c3
    obtain ⟨y517, hy517⟩ : ∃ y_ : List Int, y_ = (([0] : List Int)) := ⟨_, rfl⟩
    replace H : (if y517.length + x5_1.length < 35184372088832 then (pelorusref01_Mul.l1 k1 l0 l1 (y517 ++ x5_1) x6_1 ([] : List Int) 0 0) else (none)) = some r := by first | (rw [hy517]; with_reducible exact H) | (have H2_ := (Option.bind_some _ _).symm.trans H; rw [hy517]; with_reducible exact H2_) | (have H2_ := (Option.bind_some _ _).symm.trans H; with_reducible exact H2_) | with_reducible exact H | (rw [hy517]; exact H) | exact H
    have Ny517 := Aside0.mk hy517
    clear hy517
    by_cases c4 : y517.length + x5_1.length < 35184372088832
    ·rw [if_pos c4] at H
     have LMc4 := Aside0.mk c4
     clear c4
     obtain ⟨y520, hy520⟩ : ∃ y_ : List Int, y_ = (y517 ++ x5_1) := ⟨_, rfl⟩
     replace H : (pelorusref01_Mul.l1 k1 l0 l1 y520 x6_1 ([] : List Int) 0 0) = some r := by first | (rw [hy520]; with_reducible exact H) | (have H2_ := (Option.bind_some _ _).symm.trans H; rw [hy520]; with_reducible exact H2_) | (have H2_ := (Option.bind_some _ _).symm.trans H; with_reducible exact H2_) | with_reducible exact H | (rw [hy520]; exact H) | exact H
     have Ny520 := Aside0.mk hy520
     clear hy520
     have H' := Aside0.mk H
     clear H
     iterate 2 (try go_wp2_with (first | ((with_reducible refine gate_dst (N := 19) rfl ?_); refine Kd.R_lit (Kd.int .u32) _ 68 ?hg (N := 19) ?hd (xs := ([0] : List Int)) (inner := [.int .u32 0]) (ok := fun _ => True) (okp := fun _ => True) ?hr ?hp (fun _ hk => hk) trivial (Below.refl _ _) (Nat.le_refl _) (by simp) ?_; (case hd => rfl); (case hg => rfl); (case hr => first | (go_simp; done) | (go_simp; rfl)); (case hp => exact (Reps.one (show Kd.M (Kd.int .u32) _ _ _ 0 [.int .u32 0] from rfl) (Reps.none _ _))); intro v518 w5 ho6 hb hg_ hnew_; clear hg_ hnew_; (first | rw [← Ny517.out] at ho6 | (simp only [Int.reduceToNat] at ho6; rw [← Ny517.out] at ho6)); have n0_ := Aside0.mk (Kd.R_elder' (by (with_reducible repeat (first | apply Kd.R_alloc | apply Kd.R_drewN | apply Kd.R_drew)); exact HO_5.out) (Kd.R_base ho6) hb); have n1_ := Aside0.mk (Kd.R_lower (Kd.R_new' ho6 (Kd.R_lt (by (with_reducible repeat (first | apply Kd.R_alloc | apply Kd.R_drewN | apply Kd.R_drew)); exact HO_5.out))) (below_size (bw_ HB.out))); have n2_ := bq_ HB hb; clear HO_5; clear HB; have HO_5 := n0_; have HO519 := n1_; have HB := n2_; clear n0_ n1_ n2_; clear hb ho6; obtain ⟨Ao8, co8, eo8⟩ := Kd.R_slice HO_5.out; subst eo8) | ((with_reducible refine gate_builtin (b := .append) (xs := #[.tmp 20, .tmp 21]) rfl ?_); at_builtin; refine Kd.R_append_rows (Kd.int .u32) (w0 := w) w.heap.size rfl (.tmp 20) (.tmp 21) 46 68 (.int .u32 0) 4 rfl Try.underlying46 info68 rfl (by decide) (by omega) v518 y517 x5_1 _ _ _ (fun k_ => some k_ ≠ (.slice Ao8 x5_1.length co8 : Value).ownBlock) (fun _ => False) rfl rfl ?aO ?aR (fun _ _ h => h) (fun _ h => h.elim) ?aF ?aB ?aS ?aL ?_; (case aR => repeat (first | exact (Kd.R_reads' HO_5.out).2.2 | (with_reducible refine Kd.C_alloc ?_ _) | (with_reducible refine Kd.C_drewN ?_ _) | (with_reducible refine Kd.C_drew ?_))); (case aB => exact (bw_ HB.out)); (case aF => exact (fun k_ hk => Kd.fresh' (Kd.R_lt (by (with_reducible repeat (first | apply Kd.R_alloc | apply Kd.R_drewN | apply Kd.R_drew)); exact HO_5.out)) k_ hk)); (case aO => exact (by (with_reducible repeat (first | apply Kd.R_alloc | apply Kd.R_drewN | apply Kd.R_drew)); exact Kd.R_mono HO519.out (fun _ hk => hk.2))); (case aS => exact (below_size (bw_ HB.out))); (case aL => have := LMc4.out; omega); intro v521 w7 ho hb hg hat; rw [← Ny520.out] at ho; have n0_ := Aside0.mk (Kd.R_after (ok := (fun _ => True)) (by (with_reducible repeat (first | apply Kd.R_alloc | apply Kd.R_drewN | apply Kd.R_drew)); exact HO_5.out) hg hat); have n1_ := Aside0.mk (hb); have n2_ := Aside0.mk (ho); clear HO_5; clear HB; clear HO519; have HO_5 := n0_; have HB := n1_; have HO522 := n2_; clear n0_ n1_ n2_; clear ho hb hg hat)); try (go_quiet (fail)))
     go_loopg [8, 9, 10] k1 (fun kq v8 v9 v10 w' => ∃ (x8_2 : List Int) (x9_2 : Int) (x10_2 : Int), v9 = .int .u64 x9_2 ∧ v10 = .int .i64 x10_2 ∧ Aside0 (pelorusref01_Mul.l1 kq l0 l1 y520 x6_1 x8_2 x9_2 x10_2 = some r) ∧ Aside0 (kq ≤ k1) ∧ Aside0 (Kd.R (Kd.int .u32) 68 w' w.heap.size (fun k_ => some k_ ≠ (v8 : Value).ownBlock) v521 y520) ∧ Aside0 (Kd.R (Kd.int .u32) 68 w' w.heap.size (fun k_ => some k_ ≠ (v521 : Value).ownBlock) v8 x8_2) ∧ Aside0 (Below w.heap.size w w'))
     case atStart => exact ⟨(([] : List Int)), (0), (0), (by first | rfl | (simp; done) | (simp [*]; done)), (by first | rfl | (simp; done) | (simp [*]; done)), H', ⟨Nat.le_refl _⟩, ⟨by (with_reducible repeat (first | apply Kd.R_alloc | apply Kd.R_drewN | apply Kd.R_drew)); exact Kd.R_mono HO522.out (fun _ hk => (by simp [Value.ownBlock]))⟩, ⟨by first | exact Kd.R_nil _ _ _ _ _ | exact Kd.N_nil _ _ _ _ _ | exact Kd.V_nil _ _ _ _ _ | exact Kd.Q_nil _ _ _ _ _ | exact Kd.S_nil _ _ _ _ _⟩, ⟨bw_ HB.out⟩⟩
     case round =>
      clear H'
      try clear c1
      try clear p2
      try clear c3
      try clear c3b0
      try clear c4
      try clear p6
      try clear c7
      try clear p2
      obtain ⟨x8_2, x9_2, x10_2, rfl, rfl, HA, HK2, HO_5, HO_8, HB⟩ := hrel
      cases gk with
      | zero => exact absurd HA.out (by simp [pelorusref01_Mul.l1])
      | succ k2 =>
       have H := HA.out
       clear HA
       simp only [pelorusref01_Mul.l1] at H
       by_cases c9 : x10_2 < (l0.length : Int)
       ·rw [if_pos c9] at H
        have c9b0 : decide (x10_2 < (l0.length : Int)) = true := decide_eq_true c9
        clear c9
        by_cases c10 : 0 ≤ x10_2
        ·rw [if_pos c10] at H
         have c10b0 : decide (0 ≤ x10_2) = true := decide_eq_true c10
         clear c10
         by_cases c11 : 0 ≤ x6_1
         ·rw [if_pos c11] at H
          have c11b0 : decide (0 ≤ x6_1) = true := decide_eq_true c11
          clear c11
          by_cases c12 : x6_1 < (l1.length : Int)
          ·rw [if_pos c12] at H
           have c12b0 : decide (x6_1 < (l1.length : Int)) = true := decide_eq_true c12
           clear c12
           by_cases c13 : x8_2.length < 35184372088832
           ·rw [if_pos c13] at H
            have LMc13 := Aside0.mk c13
            clear c13
            obtain ⟨y525, hy525⟩ : ∃ y_ : List Int, y_ = (x8_2 ++ [(Int.tmod (IntKind.u64.wrap ((IntKind.u64.wrap ((IntKind.u64.wrap (rd l0 x10_2)) * (IntKind.u64.wrap (rd l1 x6_1)))) + x9_2)) 4294967296) % 4294967296]) := ⟨_, rfl⟩
            replace H : (pelorusref01_Mul.l1 k2 l0 l1 y520 x6_1 y525 (IntKind.u64.wrap (Int.tdiv (IntKind.u64.wrap ((IntKind.u64.wrap ((IntKind.u64.wrap (rd l0 x10_2)) * (IntKind.u64.wrap (rd l1 x6_1)))) + x9_2)) 4294967296)) (wrap64 (x10_2 + 1))) = some r := by first | (rw [hy525]; with_reducible exact H) | (have H2_ := (Option.bind_some _ _).symm.trans H; rw [hy525]; with_reducible exact H2_) | (have H2_ := (Option.bind_some _ _).symm.trans H; with_reducible exact H2_) | with_reducible exact H | (rw [hy525]; exact H) | exact H
            have Ny525 := Aside0.mk hy525
            clear hy525
            have H' := Aside0.mk H
            clear H
            have p523 : 0 ≤ (x10_2 : Int) := of_decide_eq_true (by first | (with_reducible assumption) | assumption)
            have q523 : x10_2 < (l0.length : Int) := of_decide_eq_true (by first | (with_reducible assumption) | assumption)
            obtain ⟨ad523, e523, hx523_0⟩ := Kd.at_int HR0.out x10_2 p523 q523
            cases e523
            replace hx523_0 := (HB.out.cell (World.block_lt_of_cell? w _ hx523_0)).trans hx523_0
            replace p523 := eq_true p523
            replace q523 := eq_true q523
            have p524 : 0 ≤ (x6_1 : Int) := of_decide_eq_true (by first | (with_reducible assumption) | assumption)
            have q524 : x6_1 < (l1.length : Int) := of_decide_eq_true (by first | (with_reducible assumption) | assumption)
            obtain ⟨ad524, e524, hx524_0⟩ := Kd.at_int HR1.out x6_1 p524 q524
            cases e524
            replace hx524_0 := (HB.out.cell (World.block_lt_of_cell? w _ hx524_0)).trans hx524_0
            replace p524 := eq_true p524
            replace q524 := eq_true q524
            iterate 2 (try go_wp2_with (first | ((with_reducible refine gate_builtin (b := .append) (xs := #[.tmp 43, .tmp 47]) rfl ?_); at_builtin; refine Kd.R_append (Kd.int .u32) (w0 := w) w.heap.size rfl (.tmp 43) (.tmp 47) 46 68 (.int .u32 0) 4 rfl Try.underlying46 info68 rfl (by decide) (by omega) u8 x8_2 ((Int.tmod (IntKind.u64.wrap ((IntKind.u64.wrap ((IntKind.u64.wrap (rd l0 x10_2)) * (IntKind.u64.wrap (rd l1 x6_1)))) + x9_2)) 4294967296) % 4294967296) [.int .u32 ((Int.tmod (IntKind.u64.wrap ((IntKind.u64.wrap ((IntKind.u64.wrap (rd l0 x10_2)) * (IntKind.u64.wrap (rd l1 x6_1)))) + x9_2)) 4294967296) % 4294967296)] (fun k_ => some k_ ≠ (v521 : Value).ownBlock) (fun _ => False) rfl rfl ?aP (fun _ hk => hk.elim) ?aF ?aO ?aB ?aS ?aL ?_; (case aP => exact rfl); (case aB => exact (bw_ HB.out)); (case aF => exact (fun k_ hk => Kd.fresh' (Kd.R_lt (by (with_reducible repeat (first | apply Kd.R_alloc | apply Kd.R_drewN | apply Kd.R_drew)); exact HO_5.out)) k_ hk)); (case aO => exact (by (with_reducible repeat (first | apply Kd.R_alloc | apply Kd.R_drewN | apply Kd.R_drew)); exact HO_8.out)); (case aS => exact (below_size (bw_ HB.out))); (case aL => have := LMc13.out; omega); intro v526 w14 ho hb hg hat; rw [← Ny525.out] at ho; have n0_ := Aside0.mk (Kd.R_after (ok := (fun _ => True)) (by (with_reducible repeat (first | apply Kd.R_alloc | apply Kd.R_drewN | apply Kd.R_drew)); exact Kd.R_mono HO_5.out (fun _ hk => by first | exact ⟨trivial, hk⟩ | (simp only [ob_map] at hk ⊢; exact ⟨trivial, hk⟩))) hg hat); have n1_ := Aside0.mk (hb); have n2_ := Aside0.mk (ho); clear HO_5; clear HB; clear HO_8; have HO_5 := n0_; have HB := n1_; have HO527 := n2_; clear n0_ n1_ n2_; clear ho hb hg hat)); try (go_quiet (fail)))
            go_roundg k2
            case measure => have := HK1.out; have := HK2.out; omega
            case rel => exact ⟨(y525), (IntKind.u64.wrap (Int.tdiv (IntKind.u64.wrap ((IntKind.u64.wrap ((IntKind.u64.wrap (rd l0 x10_2)) * (IntKind.u64.wrap (rd l1 x6_1)))) + x9_2)) 4294967296)), (wrap64 (x10_2 + 1)), (by first | rfl | (simp; done) | (simp [*]; done)), (by first | rfl | (simp; done) | (simp [*]; done)), H', ⟨by have := HK1.out; have := HK2.out; omega⟩, ⟨by (with_reducible repeat (first | apply Kd.R_alloc | apply Kd.R_drewN | apply Kd.R_drew)); exact Kd.R_mono HO_5.out (fun _ hk => hk.2)⟩, ⟨by (with_reducible repeat (first | apply Kd.R_alloc | apply Kd.R_drewN | apply Kd.R_drew)); exact HO527.out⟩, ⟨bw_ HB.out⟩⟩
           ·rw [if_neg c13] at H
            exact absurd H (by simp)
          ·rw [if_neg c12] at H
           exact absurd H (by simp)
         ·rw [if_neg c11] at H
          exact absurd H (by simp)
        ·rw [if_neg c10] at H
         exact absurd H (by simp)
       ·rw [if_neg c9] at H
        have c9b0 : decide (x10_2 < (l0.length : Int)) = false := decide_eq_false c9
        clear c9
        by_cases c15 : x8_2.length < 35184372088832
        ·rw [if_pos c15] at H
         have LMc15 := Aside0.mk c15
         clear c15
         obtain ⟨y528, hy528⟩ : ∃ y_ : List Int, y_ = (x8_2 ++ [(x9_2) % 4294967296]) := ⟨_, rfl⟩
         replace H : ((pelorusref01_Add.f k2 y520 y528).bind fun t531 => (pelorusref01_Mul.l0 k2 l0 l1 t531 (wrap64 (x6_1 - 1)))) = some r := by first | (rw [hy528]; with_reducible exact H) | (have H2_ := (Option.bind_some _ _).symm.trans H; rw [hy528]; with_reducible exact H2_) | (have H2_ := (Option.bind_some _ _).symm.trans H; with_reducible exact H2_) | with_reducible exact H | (rw [hy528]; exact H) | exact H
         have Ny528 := Aside0.mk hy528
         clear hy528
         replace H := Option.bind_eq_some_iff.mp H
         obtain ⟨t531, A160, H⟩ := H
         (try dsimp only at H)
         have A16 := Aside0.mk A160
         clear A160
         have H' := Aside0.mk H
         clear H
         iterate 2 (try go_wp2_with (first | ((with_reducible refine gate_builtin (b := .append) (xs := #[.tmp 51, .tmp 54]) rfl ?_); at_builtin; refine Kd.R_append (Kd.int .u32) (w0 := w) w.heap.size rfl (.tmp 51) (.tmp 54) 46 68 (.int .u32 0) 4 rfl Try.underlying46 info68 rfl (by decide) (by omega) u8 x8_2 ((x9_2) % 4294967296) [.int .u32 ((x9_2) % 4294967296)] (fun k_ => some k_ ≠ (v521 : Value).ownBlock) (fun _ => False) rfl rfl ?aP (fun _ hk => hk.elim) ?aF ?aO ?aB ?aS ?aL ?_; (case aP => exact rfl); (case aB => exact (bw_ HB.out)); (case aF => exact (fun k_ hk => Kd.fresh' (Kd.R_lt (by (with_reducible repeat (first | apply Kd.R_alloc | apply Kd.R_drewN | apply Kd.R_drew)); exact HO_5.out)) k_ hk)); (case aO => exact (by (with_reducible repeat (first | apply Kd.R_alloc | apply Kd.R_drewN | apply Kd.R_drew)); exact HO_8.out)); (case aS => exact (below_size (bw_ HB.out))); (case aL => have := LMc15.out; omega); intro v529 w17 ho hb hg hat; rw [← Ny528.out] at ho; have n0_ := Aside0.mk (Kd.R_after (ok := (fun _ => True)) (by (with_reducible repeat (first | apply Kd.R_alloc | apply Kd.R_drewN | apply Kd.R_drew)); exact Kd.R_mono HO_5.out (fun _ hk => by first | exact ⟨trivial, hk⟩ | (simp only [ob_map] at hk ⊢; exact ⟨trivial, hk⟩))) hg hat); have n1_ := Aside0.mk (hb); have n2_ := Aside0.mk (ho); clear HO_5; clear HB; clear HO_8; have HO_5 := n0_; have HB := n1_; have HO530 := n2_; clear n0_ n1_ n2_; clear ho hb hg hat; obtain ⟨Ao18, co18, eo18⟩ := Kd.R_slice HO_5.out; subst eo18; obtain ⟨Ao19, co19, eo19⟩ := Kd.R_slice HO530.out; subst eo19) | (go_at_call 62; (with_reducible refine (pelorusref01_Add.calls k2 _ _ y520 _ _ y528 t531 _ ?side1 ?side2 ?side3 ?side4 A16.out).mono ?_); (case side1 => repeat (first | exact (Kd.R_reads' HO_5.out).2.2 | (with_reducible refine Kd.C_alloc ?_ _) | (with_reducible refine Kd.C_drewN ?_ _) | (with_reducible refine Kd.C_drew ?_))); (case side2 => exact (Kd.R_reads' HO_5.out).2.1); (case side3 => repeat (first | exact (Kd.R_reads' HO530.out).2.2 | (with_reducible refine Kd.C_alloc ?_ _) | (with_reducible refine Kd.C_drewN ?_ _) | (with_reducible refine Kd.C_drew ?_))); (case side4 => exact (Kd.R_reads' HO530.out).2.1); rintro e w20 ⟨v532, rfl, ho0, hb⟩; have n0_ := Aside0.mk (Kd.R_elder' (by (with_reducible repeat (first | apply Kd.R_alloc | apply Kd.R_drewN | apply Kd.R_drew)); exact HO_5.out) (Kd.R_base ho0) hb); have n1_ := Aside0.mk (Kd.R_elder' (by (with_reducible repeat (first | apply Kd.R_alloc | apply Kd.R_drewN | apply Kd.R_drew)); exact HO530.out) (Kd.R_base ho0) hb); have n2_ := Aside0.mk (Kd.R_lower (Kd.R_new' (Kd.R_new' ho0 (Kd.R_lt (by (with_reducible repeat (first | apply Kd.R_alloc | apply Kd.R_drewN | apply Kd.R_drew)); exact HO_5.out))) (Kd.R_lt (by (with_reducible repeat (first | apply Kd.R_alloc | apply Kd.R_drewN | apply Kd.R_drew)); exact HO530.out))) (below_size (bw_ HB.out))); have n3_ := bq_ HB hb; clear HO_5; clear HO530; clear HB; have HO_5 := n0_; have HO530 := n1_; have HO533 := n2_; have HB := n3_; clear n0_ n1_ n2_ n3_; (try clear hb); (try clear hb2); (try clear hk); (try clear hi); (try clear ho0))); try (go_quiet (fail)))
         go_roundg k2
         case measure => have := HK1.out; have := HK2.out; omega
         case rel => exact ⟨(t531), (wrap64 (x6_1 - 1)), (by first | rfl | (simp; done) | (simp [*]; done)), H', ⟨by have := HK1.out; have := HK2.out; omega⟩, ⟨by (with_reducible repeat (first | apply Kd.R_alloc | apply Kd.R_drewN | apply Kd.R_drew)); exact Kd.R_mono HO533.out (fun _ hk => trivial)⟩, ⟨bw_ HB.out⟩⟩
        ·rw [if_neg c15] at H
         exact absurd H (by simp)
    ·rw [if_neg c4] at H
     exact absurd H (by simp)
   ·rw [if_neg c3] at H
    have c3b0 : decide (0 ≤ x6_1) = false := decide_eq_false c3
    clear c3
    replace H := Option.bind_eq_some_iff.mp H
    obtain ⟨t514, A210, H⟩ := H
    (try dsimp only at H)
    have A21 := Aside0.mk A210
    clear A210
    obtain rfl := Option.some.inj H
    obtain ⟨Ao22, co22, eo22⟩ := Kd.R_slice HO_5.out
    subst eo22
    iterate 2 (try go_wp2_with (first | (go_at_call 69; (with_reducible refine (pelorusref01_Trim.calls k1 _ _ x5_1 t514 _ ?side1 ?side2 A21.out).mono ?_); (case side1 => repeat (first | exact (Kd.R_reads' HO_5.out).2.2 | (with_reducible refine Kd.C_alloc ?_ _) | (with_reducible refine Kd.C_drewN ?_ _) | (with_reducible refine Kd.C_drew ?_))); (case side2 => exact (Kd.R_reads' HO_5.out).2.1); rintro e w23 ⟨v515, rfl, ho0, hb⟩; have n0_ := Aside0.mk (Kd.R_elder' (by (with_reducible repeat (first | apply Kd.R_alloc | apply Kd.R_drewN | apply Kd.R_drew)); exact HO_5.out) (Kd.R_base ho0) hb); have n1_ := Aside0.mk (Kd.R_lower (Kd.R_new' ho0 (Kd.R_lt (by (with_reducible repeat (first | apply Kd.R_alloc | apply Kd.R_drewN | apply Kd.R_drew)); exact HO_5.out))) (below_size (bw_ HB.out))); have n2_ := bq_ HB hb; clear HO_5; clear HB; have HO_5 := n0_; have HO516 := n1_; have HB := n2_; clear n0_ n1_ n2_; (try clear hb); (try clear hb2); (try clear hk); (try clear hi); (try clear ho0))); try (go_quiet (fail)))
    go_ret
    exact ⟨_, rf_, by (with_reducible repeat (first | apply Kd.R_alloc | apply Kd.R_drewN | apply Kd.R_drew)); exact Kd.R_mono HO516.out (fun _ hk => trivial), bw_ HB.out⟩

/-! ### pelorusref01_Shl: function 60 -/
set_option maxHeartbeats 8000000 in
set_option maxRecDepth 100000 in
theorem pelorusref01_Shl.calls (k : Nat) (A0 : Option Addr) (c0 : Nat) (l0 : List Int) (a1 : Int) (r : List Int) (w : World) (hr0 : Kd.C (Kd.int .u32) w A0 l0.length l0) (hc0 : l0.length ≤ c0) (h : pelorusref01_Shl.f k l0 a1 = some r) :
  Calls Try.prog 60 #[.slice A0 l0.length c0, .int .i64 a1] w fun e w' => ∃ v0_ : Value, e = .returned (v0_) ∧ Kd.R (Kd.int .u32) 68 w' w.heap.size (fun _ => True) v0_ r ∧ Below w.heap.size w w' := by
 have HR0 := Aside0.mk hr0
 have HC0 := Aside0.mk hc0
 clear hr0 hc0
 have HB := Aside0.mk (Below.refl w.heap.size w)
 have H : (if a1 < 1 then ((pelorusref01_Trim.f k l0).bind fun t534 => (some t534)) else (if a1 > 16777216 then (some ([] : List Int)) else (if 0 ≤ (wrap64 (Int.tdiv a1 32)) then (if (wrap64 (Int.tdiv a1 32) : Int).toNat ≤ 70368744177664 then ((some (List.replicate (wrap64 (Int.tdiv a1 32) : Int).toNat 0 : List Int)).bind fun y537 => (if y537.length + l0.length < 35184372088832 then (if 0 ≤ (IntKind.u64.wrap (Int.tmod a1 32)) then ((pelorusref01_Mul.f k (y537 ++ l0) (([shl .u32 1 (IntKind.u64.wrap (Int.tmod a1 32))] : List Int))).bind fun t546 => (some t546)) else (none)) else (none))) else (none)) else (none)))) = some r := h
 clear h
 by_cases c3 : a1 < 1
 ·rw [if_pos c3] at H
  have c3b0 : decide (a1 < 1) = true := decide_eq_true c3
  clear c3
  replace H := Option.bind_eq_some_iff.mp H
  obtain ⟨t534, A40, H⟩ := H
  (try dsimp only at H)
  have A4 := Aside0.mk A40
  clear A40
  obtain rfl := Option.some.inj H
  go_enter Try.func60, Try.ntmps60
  go_wp2_with (first | ((with_reducible refine gate_callee (f := 69) rfl ?_); refine gl_ (some 10) Try.func69 #[.slice A0 l0.length c0] ?_; (with_reducible refine (pelorusref01_Trim.calls k _ _ l0 t534 _ ?side1 ?side2 A4.out).mono ?_); (case side1 => repeat (first | exact HR0.out | (with_reducible refine Kd.C_alloc ?_ _) | (with_reducible refine Kd.C_drewN ?_ _) | (with_reducible refine Kd.C_drew ?_))); (case side2 => exact HC0.out); rintro e w5 ⟨v535, rfl, ho0, hb⟩; refine ⟨_, rfl, ?_⟩; have n0_ := Aside0.mk (Kd.R_lower ho0 (below_size (bw_ HB.out))); have n1_ := bq_ HB hb; clear HB; have HO536 := n0_; have HB := n1_; clear n0_ n1_; (try clear hb); (try clear hb2); (try clear hk); (try clear hi); (try clear ho0)))
  go_ret
  exact ⟨_, rf_, by (with_reducible repeat (first | apply Kd.R_alloc | apply Kd.R_drewN | apply Kd.R_drew)); exact HO536.out, bw_ HB.out⟩
 ·rw [if_neg c3] at H
  have c3b0 : decide (a1 < 1) = false := decide_eq_false c3
  clear c3
  by_cases c6 : a1 > 16777216
  ·rw [if_pos c6] at H
   have c6b0 : decide (16777216 < a1) = true := decide_eq_true c6
   clear c6
   obtain rfl := Option.some.inj H
   go_enter Try.func60, Try.ntmps60
   go_wp2
   go_ret
   exact ⟨_, rf_, by first | exact Kd.R_nil _ _ _ _ _ | exact Kd.N_nil _ _ _ _ _ | exact Kd.V_nil _ _ _ _ _ | exact Kd.Q_nil _ _ _ _ _ | exact Kd.S_nil _ _ _ _ _, bw_ HB.out⟩
  ·rw [if_neg c6] at H
   have c6b0 : decide (16777216 < a1) = false := decide_eq_false c6
   clear c6
   obtain ⟨ji7, hji7⟩ : ∃ j_ : Int, (wrap64 (Int.tdiv a1 32)) = j_ := ⟨_, rfl⟩
   (first | rw [hji7] at H | simp only [hji7] at H)
   have hji7w : (IntKind.i64.wrap (Int.tdiv a1 32)) = ji7 := (i64_w _).trans hji7
   by_cases c8 : 0 ≤ (ji7)
   ·rw [if_pos c8] at H
    have c8b0 := eq_true c8
    have c8b1 : decide (0 ≤ (ji7)) = true := decide_eq_true c8
    clear c8
    by_cases c9 : (ji7 : Int).toNat ≤ 70368744177664
    ·rw [if_pos c9] at H
     have c9b0 := eq_true c9
     have c9b1 : decide ((ji7 : Int).toNat ≤ 70368744177664) = true := decide_eq_true c9
     clear c9
     obtain ⟨y537, hy537⟩ : ∃ y_ : List Int, y_ = (List.replicate (ji7 : Int).toNat 0) := ⟨_, rfl⟩
     replace H : (if y537.length + l0.length < 35184372088832 then (if 0 ≤ (IntKind.u64.wrap (Int.tmod a1 32)) then ((pelorusref01_Mul.f k (y537 ++ l0) (([shl .u32 1 (IntKind.u64.wrap (Int.tmod a1 32))] : List Int))).bind fun t546 => (some t546)) else (none)) else (none)) = some r := by first | (rw [hy537]; with_reducible exact H) | (have H2_ := (Option.bind_some _ _).symm.trans H; rw [hy537]; with_reducible exact H2_) | (have H2_ := (Option.bind_some _ _).symm.trans H; with_reducible exact H2_) | with_reducible exact H | (rw [hy537]; exact H) | exact H
     have Ny537 := Aside0.mk hy537
     clear hy537
     by_cases c10 : y537.length + l0.length < 35184372088832
     ·rw [if_pos c10] at H
      have LMc10 := Aside0.mk c10
      clear c10
      obtain ⟨y540, hy540⟩ : ∃ y_ : List Int, y_ = (y537 ++ l0) := ⟨_, rfl⟩
      replace H : (if 0 ≤ (IntKind.u64.wrap (Int.tmod a1 32)) then ((pelorusref01_Mul.f k y540 (([shl .u32 1 (IntKind.u64.wrap (Int.tmod a1 32))] : List Int))).bind fun t546 => (some t546)) else (none)) = some r := by first | (rw [hy540]; with_reducible exact H) | (have H2_ := (Option.bind_some _ _).symm.trans H; rw [hy540]; with_reducible exact H2_) | (have H2_ := (Option.bind_some _ _).symm.trans H; with_reducible exact H2_) | with_reducible exact H | (rw [hy540]; exact H) | exact H
      have Ny540 := Aside0.mk hy540
      clear hy540
      obtain ⟨ji11, hji11⟩ : ∃ j_ : Int, (IntKind.u64.wrap (Int.tmod a1 32)) = j_ := ⟨_, rfl⟩
      (first | rw [hji11] at H | simp only [hji11] at H)
      by_cases c12 : 0 ≤ (ji11)
      ·rw [if_pos c12] at H
       have c12b0 := eq_true c12
       have c12b1 : decide (0 ≤ (ji11)) = true := decide_eq_true c12
       clear c12
       obtain ⟨ji13, hji13⟩ : ∃ j_ : Int, (shl .u32 1 (ji11)) = j_ := ⟨_, rfl⟩
       (first | rw [hji13] at H | simp only [hji13] at H)
       have hji13_ : (IntKind.u32.wrap (1 * 2 ^ min (ji11).toNat 32)) = ji13 := hji13
       have hji13z : (ji11) ≤ 32 → (IntKind.u32.wrap (1 * 2 ^ (ji11).toNat)) = ji13 := shl_small hji13
       have hji13u : (IntKind.u32.wrap (2 ^ min (ji11).toNat 32)) = ji13 := by have h_ := hji13_; rw [Int.one_mul] at h_; exact h_
       have hji13v : (ji11) ≤ 32 → (IntKind.u32.wrap (2 ^ (ji11).toNat)) = ji13 := fun hle_ => by have h_ := hji13z hle_; rw [Int.one_mul] at h_; exact h_
       obtain ⟨y543, hy543⟩ : ∃ y_ : List Int, y_ = (([ji13] : List Int)) := ⟨_, rfl⟩
       replace H : ((pelorusref01_Mul.f k y540 y543).bind fun t546 => (some t546)) = some r := by first | (rw [hy543]; with_reducible exact H) | (have H2_ := (Option.bind_some _ _).symm.trans H; rw [hy543]; with_reducible exact H2_) | (have H2_ := (Option.bind_some _ _).symm.trans H; with_reducible exact H2_) | with_reducible exact H | (rw [hy543]; exact H) | exact H
       have Ny543 := Aside0.mk hy543
       clear hy543
       replace H := Option.bind_eq_some_iff.mp H
       obtain ⟨t546, A140, H⟩ := H
       (try dsimp only at H)
       have A14 := Aside0.mk A140
       clear A140
       obtain rfl := Option.some.inj H
       go_enter Try.func60, Try.ntmps60
       go_wp2_with (first | ((with_reducible refine gate_dst (N := 15) rfl ?_); refine Kd.R_make (Kd.int .u32) _ 68 rfl (N := 15) rfl 46 _ _ rfl ji7 rfl rfl Try.underlying46 (.int .u32 0) 4 info68 rfl (by decide) (by omega) 0 (ok := fun _ => True) (okp := fun _ => True) rfl (fun _ hk => hk) trivial (of_decide_eq_true (by first | (with_reducible assumption) | assumption)) (Nat.le_trans (Nat.mul_le_mul_right _ (of_decide_eq_true (by first | (with_reducible assumption) | assumption) : ji7.toNat ≤ 70368744177664)) (by omega)) (Below.refl _ _) (Nat.le_refl _) ?_; intro v538 w15 ho16 hb hg_ hnew_; clear hg_ hnew_; (first | rw [← Ny537.out] at ho16 | (simp only [Int.reduceToNat] at ho16; rw [← Ny537.out] at ho16)); have n0_ := Aside0.mk (Kd.R_lower ho16 (below_size (bw_ HB.out))); have n1_ := bq_ HB hb; clear HB; have HO539 := n0_; have HB := n1_; clear n0_ n1_; clear hb ho16) | ((with_reducible refine gate_builtin (b := .append) (xs := #[.tmp 16, .tmp 17]) rfl ?_); at_builtin; refine Kd.R_append_rows (Kd.int .u32) (w0 := w) w.heap.size rfl (.tmp 16) (.tmp 17) 46 68 (.int .u32 0) 4 rfl Try.underlying46 info68 rfl (by decide) (by omega) v538 y537 l0 _ _ _ (fun _ => True) (fun _ => False) rfl rfl ?aO ?aR (fun _ _ h => h) (fun _ h => h.elim) ?aF ?aB ?aS ?aL ?_; (case aR => repeat (first | exact (Kd.C_below HR0.out HB.out) | (with_reducible refine Kd.C_alloc ?_ _) | (with_reducible refine Kd.C_drewN ?_ _) | (with_reducible refine Kd.C_drew ?_))); (case aB => exact (bw_ HB.out)); (case aF => exact (fun _ _ => trivial)); (case aO => exact (by (with_reducible repeat (first | apply Kd.R_alloc | apply Kd.R_drewN | apply Kd.R_drew)); exact HO539.out)); (case aS => exact (below_size (bw_ HB.out))); (case aL => have := LMc10.out; omega); intro v541 w17 ho hb hg hat; rw [← Ny540.out] at ho; have n0_ := Aside0.mk (hb); have n1_ := Aside0.mk (ho); clear HB; clear HO539; have HB := n0_; have HO542 := n1_; clear n0_ n1_; clear ho hb hg hat) | ((with_reducible refine gate_dst (N := 25) rfl ?_); refine Kd.R_lit (Kd.int .u32) _ 68 ?hg (N := 25) ?hd (xs := ([ji13] : List Int)) (inner := [.int .u32 ji13]) (ok := fun _ => True) (okp := fun _ => True) ?hr ?hp (fun _ hk => hk) trivial (Below.refl _ _) (Nat.le_refl _) (by simp) ?_; (case hd => rfl); (case hg => rfl); (case hr => first | (go_simp; done) | (go_simp; rfl)); (case hp => exact (Reps.one (show Kd.M (Kd.int .u32) _ _ _ ji13 [.int .u32 ji13] from rfl) (Reps.none _ _))); intro v544 w18 ho19 hb hg_ hnew_; clear hg_ hnew_; (first | rw [← Ny543.out] at ho19 | (simp only [Int.reduceToNat] at ho19; rw [← Ny543.out] at ho19)); have n0_ := Aside0.mk (Kd.R_elder' (by (with_reducible repeat (first | apply Kd.R_alloc | apply Kd.R_drewN | apply Kd.R_drew)); exact HO542.out) (Kd.R_base ho19) hb); have n1_ := Aside0.mk (Kd.R_lower (Kd.R_new' ho19 (Kd.R_lt (by (with_reducible repeat (first | apply Kd.R_alloc | apply Kd.R_drewN | apply Kd.R_drew)); exact HO542.out))) (below_size (bw_ HB.out))); have n2_ := bq_ HB hb; clear HO542; clear HB; have HO542 := n0_; have HO545 := n1_; have HB := n2_; clear n0_ n1_ n2_; clear hb ho19; obtain ⟨Ao20, co20, eo20⟩ := Kd.R_slice HO542.out; subst eo20; obtain ⟨Ao21, co21, eo21⟩ := Kd.R_slice HO545.out; subst eo21) | ((with_reducible refine gate_callee (f := 70) rfl ?_); refine gl_ (some 26) Try.func70 #[.slice Ao20 y540.length co20, .slice Ao21 y543.length co21] ?_; (with_reducible refine (pelorusref01_Mul.calls k _ _ y540 _ _ y543 t546 _ ?side1 ?side2 ?side3 ?side4 A14.out).mono ?_); (case side1 => repeat (first | exact (Kd.R_reads' HO542.out).2.2 | (with_reducible refine Kd.C_alloc ?_ _) | (with_reducible refine Kd.C_drewN ?_ _) | (with_reducible refine Kd.C_drew ?_))); (case side2 => exact (Kd.R_reads' HO542.out).2.1); (case side3 => repeat (first | exact (Kd.R_reads' HO545.out).2.2 | (with_reducible refine Kd.C_alloc ?_ _) | (with_reducible refine Kd.C_drewN ?_ _) | (with_reducible refine Kd.C_drew ?_))); (case side4 => exact (Kd.R_reads' HO545.out).2.1); rintro e w22 ⟨v547, rfl, ho0, hb⟩; refine ⟨_, rfl, ?_⟩; have n0_ := Aside0.mk (Kd.R_elder' (by (with_reducible repeat (first | apply Kd.R_alloc | apply Kd.R_drewN | apply Kd.R_drew)); exact HO542.out) (Kd.R_base ho0) hb); have n1_ := Aside0.mk (Kd.R_elder' (by (with_reducible repeat (first | apply Kd.R_alloc | apply Kd.R_drewN | apply Kd.R_drew)); exact HO545.out) (Kd.R_base ho0) hb); have n2_ := Aside0.mk (Kd.R_lower (Kd.R_new' (Kd.R_new' ho0 (Kd.R_lt (by (with_reducible repeat (first | apply Kd.R_alloc | apply Kd.R_drewN | apply Kd.R_drew)); exact HO542.out))) (Kd.R_lt (by (with_reducible repeat (first | apply Kd.R_alloc | apply Kd.R_drewN | apply Kd.R_drew)); exact HO545.out))) (below_size (bw_ HB.out))); have n3_ := bq_ HB hb; clear HO542; clear HO545; clear HB; have HO542 := n0_; have HO545 := n1_; have HO548 := n2_; have HB := n3_; clear n0_ n1_ n2_ n3_; (try clear hb); (try clear hb2); (try clear hk); (try clear hi); (try clear ho0)))
       go_ret
       exact ⟨_, by first | rfl | (simp [errW_none, errW_some] <;> rfl) | (simp only [← hji7, ← hji11, ← hji13]; first | rfl | (simp [errW_none, errW_some] <;> rfl)) | (simp [*, errW_none, errW_some] <;> rfl), by (with_reducible repeat (first | apply Kd.R_alloc | apply Kd.R_drewN | apply Kd.R_drew)); exact Kd.R_mono HO548.out (fun _ hk => trivial), bw_ HB.out⟩
      ·rw [if_neg c12] at H
       exact absurd H (by simp)
     ·rw [if_neg c10] at H
      exact absurd H (by simp)
    ·rw [if_neg c9] at H
     exact absurd H (by simp)
   ·rw [if_neg c8] at H
    exact absurd H (by simp)

end Go.Proofs.Ythlhogcnfaiphaa.PA
