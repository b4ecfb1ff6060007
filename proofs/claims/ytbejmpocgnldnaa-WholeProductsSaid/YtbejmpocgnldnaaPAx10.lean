-- Laid by this work's own program; Lean checks it.
import Derived.Test.YtbejmpocgnldnaaPAx0
import Derived.Test.YtbejmpocgnldnaaPAx1
import Derived.Test.YtbejmpocgnldnaaPAx9
namespace Go.Proofs.Ytbejmpocgnldnaa.PA
open Go.RowKit Go.Proofs.YtbejmpocgnldnaaW.PrintWords Go.Proofs.YtbejmpocgnldnaaW.PrintLast Go.Proofs.YtbejmpocgnldnaaW.PrintMore
attribute [local go_sem] max2_int min2_int max_two min_two max_three min_three max_four min_four   -- for this text's walks alone
set_option linter.unusedVariables false
set_option linter.unusedSimpArgs false

attribute [local go_sem ↓ high] isSome_set_
/-! ### pelorusref02_From: function 21 -/
set_option maxHeartbeats 8000000 in
set_option maxRecDepth 100000 in
theorem pelorusref02_From.calls (k : Nat) (a0 : Int) (r1 : Bool) (r2 : List Int) (w : World) (h : pelorusref02_From.f k a0 = some (r1, r2)) :
  Calls Try.prog 21 #[.int .i64 a0] w fun e w' => ∃ v1_ : Value, e = .returned (.agg #[.bool r1, v1_]) ∧ Kd.R (Kd.int .u32) 47 w' w.heap.size (fun _ => True) v1_ r2 ∧ Below w.heap.size w w' := by
 have hu24 := Try.underlying24
 have HB := Aside0.mk (Below.refl w.heap.size w)
 have H : (if a0 < 0 then ((pelorusref02_Make.f k (decide (a0 < 0)) (([(Int.tmod (IntKind.u64.wrap ((IntKind.u64.wrap (wrap64 (-(wrap64 (a0 + 1))))) + 1)) 4294967296) % 4294967296, (IntKind.u64.wrap (Int.tdiv (IntKind.u64.wrap ((IntKind.u64.wrap (wrap64 (-(wrap64 (a0 + 1))))) + 1)) 4294967296)) % 4294967296] : List Int))).bind fun bt490 => (some (bt490.1, bt490.2))) else ((pelorusref02_Make.f k (decide (a0 < 0)) (([(Int.tmod (IntKind.u64.wrap (a0)) 4294967296) % 4294967296, (IntKind.u64.wrap (Int.tdiv (IntKind.u64.wrap (a0)) 4294967296)) % 4294967296] : List Int))).bind fun bt497 => (some (bt497.1, bt497.2)))) = some (r1, r2) := h
 clear h
 by_cases c2 : a0 < 0
 ·rw [if_pos c2] at H
  have c2b0 : decide (a0 < 0) = true := decide_eq_true c2
  clear c2
  obtain ⟨y487, hy487⟩ : ∃ y_ : List Int, y_ = (([(Int.tmod (IntKind.u64.wrap ((IntKind.u64.wrap (wrap64 (-(wrap64 (a0 + 1))))) + 1)) 4294967296) % 4294967296, (IntKind.u64.wrap (Int.tdiv (IntKind.u64.wrap ((IntKind.u64.wrap (wrap64 (-(wrap64 (a0 + 1))))) + 1)) 4294967296)) % 4294967296] : List Int)) := ⟨_, rfl⟩
  replace H : ((pelorusref02_Make.f k (decide (a0 < 0)) y487).bind fun bt490 => (some (bt490.1, bt490.2))) = some (r1, r2) := by first | (rw [hy487]; with_reducible exact H) | (have H2_ := (Option.bind_some _ _).symm.trans H; rw [hy487]; with_reducible exact H2_) | (have H2_ := (Option.bind_some _ _).symm.trans H; with_reducible exact H2_) | with_reducible exact H | (rw [hy487]; exact H) | exact H
  have Ny487 := Aside0.mk hy487
  clear hy487
  replace H := Option.bind_eq_some_iff.mp H
  obtain ⟨⟨t490, t491⟩, A30, H⟩ := H
  (try dsimp only at H)
  have A3 := Aside0.mk A30
  clear A30
  simp only [Option.some.injEq, Prod.mk.injEq] at H
  obtain ⟨rfl, rfl⟩ := H
  go_enter Try.func21, Try.ntmps21
  go_wp2_with (first | ((with_reducible refine gate_dst (N := 2) rfl ?_); refine bx_ 2 #[.bool false, .slice none 0 0] 24 ?_; intro gb486 hg w4 hbox hb; have BK486 := Aside0.mk (hbox); have GW486 := ge_ hg HB; have GE486 := ge_ hg HB; replace HB := bq_ HB hb; clear hb hbox hg) | ((with_reducible refine gate_dst (N := 21) rfl ?_); refine Kd.R_lit (Kd.int .u32) _ 47 ?hg (N := 21) ?hd (xs := ([(Int.tmod (IntKind.u64.wrap ((IntKind.u64.wrap (wrap64 (-(wrap64 (a0 + 1))))) + 1)) 4294967296) % 4294967296, (IntKind.u64.wrap (Int.tdiv (IntKind.u64.wrap ((IntKind.u64.wrap (wrap64 (-(wrap64 (a0 + 1))))) + 1)) 4294967296)) % 4294967296] : List Int)) (inner := [.int .u32 ((Int.tmod (IntKind.u64.wrap ((IntKind.u64.wrap (wrap64 (-(wrap64 (a0 + 1))))) + 1)) 4294967296) % 4294967296), .int .u32 ((IntKind.u64.wrap (Int.tdiv (IntKind.u64.wrap ((IntKind.u64.wrap (wrap64 (-(wrap64 (a0 + 1))))) + 1)) 4294967296)) % 4294967296)]) (ok := fun _ => True) (okp := fun _ => True) ?hr ?hp (fun _ hk => hk) trivial (Below.refl _ _) (Nat.le_refl _) (by simp) ?_; (case hd => rfl); (case hg => rfl); (case hr => first | (go_simp; done) | (go_simp; rfl)); (case hp => exact (Reps.one (show Kd.M (Kd.int .u32) _ _ _ ((Int.tmod (IntKind.u64.wrap ((IntKind.u64.wrap (wrap64 (-(wrap64 (a0 + 1))))) + 1)) 4294967296) % 4294967296) [.int .u32 ((Int.tmod (IntKind.u64.wrap ((IntKind.u64.wrap (wrap64 (-(wrap64 (a0 + 1))))) + 1)) 4294967296) % 4294967296)] from rfl) (Reps.one (show Kd.M (Kd.int .u32) _ _ _ ((IntKind.u64.wrap (Int.tdiv (IntKind.u64.wrap ((IntKind.u64.wrap (wrap64 (-(wrap64 (a0 + 1))))) + 1)) 4294967296)) % 4294967296) [.int .u32 ((IntKind.u64.wrap (Int.tdiv (IntKind.u64.wrap ((IntKind.u64.wrap (wrap64 (-(wrap64 (a0 + 1))))) + 1)) 4294967296)) % 4294967296)] from rfl) (Reps.none _ _)))); intro v488 w5 ho6 hb hg_ hnew_; clear hg_ hnew_; (first | rw [← Ny487.out] at ho6 | (simp only [Int.reduceToNat] at ho6; rw [← Ny487.out] at ho6)); have HO489 := Aside0.mk (Kd.R_lower ho6 (below_size (bw_ HB.out))); replace BK486 := kq_ BK486 hb; replace HB := bq_ HB hb; clear hb ho6; obtain ⟨Ao7, co7, eo7⟩ := Kd.R_slice HO489.out; subst eo7) | ((with_reducible refine gate_callee (f := 20) rfl ?_); refine gl_ (some 22) Try.func20 #[.bool (decide (a0 < 0)), .slice Ao7 y487.length co7] ?_; (with_reducible refine (pelorusref02_Make.calls k (decide (a0 < 0)) _ _ y487 t490 t491 _ ?side1 ?side2 A3.out).mono ?_); (case side1 => exact kc_ (Kd.R_reads' HO489.out).2.2); (case side2 => exact (Kd.R_reads' HO489.out).2.1); rintro e w8 ⟨v492, rfl, ho0, hb⟩; refine ⟨_, rfl, ?_⟩; have HO493 := Aside0.mk (Kd.R_lower (Kd.R_new' ho0 (Kd.R_lt (kr_ HO489.out))) (below_size (bw_ HB.out))); replace HO489 := Aside0.mk (Kd.R_elder' (kr_ HO489.out) (Kd.R_base ho0) hb); replace BK486 := kq_ BK486 hb; replace HB := bq_ HB hb; (try clear hb); (try clear hb2); (try clear hk); (try clear hi); (try clear ho0); obtain ⟨hcz9_0, hcz9_1, hfz9_0, hfz9_1⟩ := c2_ BK486; obtain ⟨Ao10, co10, eo10⟩ := Kd.R_slice HO493.out; subst eo10))
  refine bodyPost_ret (results_cell_row rfl _ _ gb486 24 #[.bool t490, .slice Ao10 t491.length co10] (0, 0) _ rfl (by refine kb_ ?_; refine bp_ #[.bool t490, .slice none 0 0] 1 ?_; refine bp_ #[.bool false, .slice none 0 0] 0 ?_; exact BK486.out) Try.underlying24 rfl (by kernel_rfl)) rfl ?_
  exact ⟨_, rf_, by (with_reducible repeat (first | apply Kd.R_alloc | apply Kd.R_drewN | apply Kd.R_drew)); exact Kd.R_mono (Kd.R_far (p := ⟨gb486, 1, none⟩) (Kd.R_far (p := ⟨gb486, 0, none⟩) (Kd.R_types HO493.out BK486.out (by decide)) (fun _ hk => hk.2) (.bool t490)) (fun _ hk => hk.2) (.slice Ao10 t491.length co10)) (fun _ hk => trivial), bw_ HB.out⟩
 ·rw [if_neg c2] at H
  have c2b0 : decide (a0 < 0) = false := decide_eq_false c2
  clear c2
  obtain ⟨y494, hy494⟩ : ∃ y_ : List Int, y_ = (([(Int.tmod (IntKind.u64.wrap (a0)) 4294967296) % 4294967296, (IntKind.u64.wrap (Int.tdiv (IntKind.u64.wrap (a0)) 4294967296)) % 4294967296] : List Int)) := ⟨_, rfl⟩
  replace H : ((pelorusref02_Make.f k (decide (a0 < 0)) y494).bind fun bt497 => (some (bt497.1, bt497.2))) = some (r1, r2) := by first | (rw [hy494]; with_reducible exact H) | (have H2_ := (Option.bind_some _ _).symm.trans H; rw [hy494]; with_reducible exact H2_) | (have H2_ := (Option.bind_some _ _).symm.trans H; with_reducible exact H2_) | with_reducible exact H | (rw [hy494]; exact H) | exact H
  have Ny494 := Aside0.mk hy494
  clear hy494
  replace H := Option.bind_eq_some_iff.mp H
  obtain ⟨⟨t497, t498⟩, A110, H⟩ := H
  (try dsimp only at H)
  have A11 := Aside0.mk A110
  clear A110
  simp only [Option.some.injEq, Prod.mk.injEq] at H
  obtain ⟨rfl, rfl⟩ := H
  go_enter Try.func21, Try.ntmps21
  go_wp2_with (first | ((with_reducible refine gate_dst (N := 2) rfl ?_); refine bx_ 2 #[.bool false, .slice none 0 0] 24 ?_; intro gb486 hg w12 hbox hb; have BK486 := Aside0.mk (hbox); have GW486 := ge_ hg HB; have GE486 := ge_ hg HB; replace HB := bq_ HB hb; clear hb hbox hg) | ((with_reducible refine gate_dst (N := 21) rfl ?_); refine Kd.R_lit (Kd.int .u32) _ 47 ?hg (N := 21) ?hd (xs := ([(Int.tmod (IntKind.u64.wrap (a0)) 4294967296) % 4294967296, (IntKind.u64.wrap (Int.tdiv (IntKind.u64.wrap (a0)) 4294967296)) % 4294967296] : List Int)) (inner := [.int .u32 ((Int.tmod (IntKind.u64.wrap (a0)) 4294967296) % 4294967296), .int .u32 ((IntKind.u64.wrap (Int.tdiv (IntKind.u64.wrap (a0)) 4294967296)) % 4294967296)]) (ok := fun _ => True) (okp := fun _ => True) ?hr ?hp (fun _ hk => hk) trivial (Below.refl _ _) (Nat.le_refl _) (by simp) ?_; (case hd => rfl); (case hg => rfl); (case hr => first | (go_simp; done) | (go_simp; rfl)); (case hp => exact (Reps.one (show Kd.M (Kd.int .u32) _ _ _ ((Int.tmod (IntKind.u64.wrap (a0)) 4294967296) % 4294967296) [.int .u32 ((Int.tmod (IntKind.u64.wrap (a0)) 4294967296) % 4294967296)] from rfl) (Reps.one (show Kd.M (Kd.int .u32) _ _ _ ((IntKind.u64.wrap (Int.tdiv (IntKind.u64.wrap (a0)) 4294967296)) % 4294967296) [.int .u32 ((IntKind.u64.wrap (Int.tdiv (IntKind.u64.wrap (a0)) 4294967296)) % 4294967296)] from rfl) (Reps.none _ _)))); intro v495 w13 ho14 hb hg_ hnew_; clear hg_ hnew_; (first | rw [← Ny494.out] at ho14 | (simp only [Int.reduceToNat] at ho14; rw [← Ny494.out] at ho14)); have HO496 := Aside0.mk (Kd.R_lower ho14 (below_size (bw_ HB.out))); replace BK486 := kq_ BK486 hb; replace HB := bq_ HB hb; clear hb ho14; obtain ⟨Ao15, co15, eo15⟩ := Kd.R_slice HO496.out; subst eo15) | ((with_reducible refine gate_callee (f := 20) rfl ?_); refine gl_ (some 22) Try.func20 #[.bool (decide (a0 < 0)), .slice Ao15 y494.length co15] ?_; (with_reducible refine (pelorusref02_Make.calls k (decide (a0 < 0)) _ _ y494 t497 t498 _ ?side1 ?side2 A11.out).mono ?_); (case side1 => exact kc_ (Kd.R_reads' HO496.out).2.2); (case side2 => exact (Kd.R_reads' HO496.out).2.1); rintro e w16 ⟨v499, rfl, ho0, hb⟩; refine ⟨_, rfl, ?_⟩; have HO500 := Aside0.mk (Kd.R_lower (Kd.R_new' ho0 (Kd.R_lt (kr_ HO496.out))) (below_size (bw_ HB.out))); replace HO496 := Aside0.mk (Kd.R_elder' (kr_ HO496.out) (Kd.R_base ho0) hb); replace BK486 := kq_ BK486 hb; replace HB := bq_ HB hb; (try clear hb); (try clear hb2); (try clear hk); (try clear hi); (try clear ho0); obtain ⟨hcz17_0, hcz17_1, hfz17_0, hfz17_1⟩ := c2_ BK486; obtain ⟨Ao18, co18, eo18⟩ := Kd.R_slice HO500.out; subst eo18))
  refine bodyPost_ret (results_cell_row rfl _ _ gb486 24 #[.bool t497, .slice Ao18 t498.length co18] (0, 0) _ rfl (by refine kb_ ?_; refine bp_ #[.bool t497, .slice none 0 0] 1 ?_; refine bp_ #[.bool false, .slice none 0 0] 0 ?_; exact BK486.out) Try.underlying24 rfl (by kernel_rfl)) rfl ?_
  exact ⟨_, rf_, by (with_reducible repeat (first | apply Kd.R_alloc | apply Kd.R_drewN | apply Kd.R_drew)); exact Kd.R_mono (Kd.R_far (p := ⟨gb486, 1, none⟩) (Kd.R_far (p := ⟨gb486, 0, none⟩) (Kd.R_types HO500.out BK486.out (by decide)) (fun _ hk => hk.2) (.bool t497)) (fun _ hk => hk.2) (.slice Ao18 t498.length co18)) (fun _ hk => trivial), bw_ HB.out⟩

end Go.Proofs.Ytbejmpocgnldnaa.PA
