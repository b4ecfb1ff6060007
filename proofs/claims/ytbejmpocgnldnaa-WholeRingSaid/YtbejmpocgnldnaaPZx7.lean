-- Laid by this work's own program; Lean checks it.
import Derived.Test.YtbejmpocgnldnaaPZx0
import Derived.Test.YtbejmpocgnldnaaPZx1
import Derived.Test.YtbejmpocgnldnaaPZx2
import Derived.Test.YtbejmpocgnldnaaPZx4
import Derived.Test.YtbejmpocgnldnaaPZx6
namespace Go.Proofs.Ytbejmpocgnldnaa.PZ
open Go.RowKit Go.Proofs.YtbejmpocgnldnaaW.PrintWords Go.Proofs.YtbejmpocgnldnaaW.PrintLast Go.Proofs.YtbejmpocgnldnaaW.PrintMore
attribute [local go_sem] max2_int min2_int max_two min_two max_three min_three max_four min_four   -- for this text's walks alone
set_option linter.unusedVariables false
set_option linter.unusedSimpArgs false

attribute [local go_sem ↓ high] isSome_set_
/-! ### whole_Div: function 11 -/
theorem whole_Div.tab4 : rtab .any (opsOf Try.f11 4) = whole_Div.T4 := by kernel_rfl
theorem whole_Div.bits4 : waitsOk whole_Div.T4.2 whole_Div.B4 = true := by kernel_rfl
def whole_Div.T6 : Bool × List (List Nat × List Nat) := (true, [([], []), ([], []), ([0, 1, 1], [0, 1]), ([], []), ([], []), ([3, 4, 2], [3, 4]), ([2, 5, 0, 1, 2], [2]), ([5, 6, 0, 1, 2, 3, 4, 5, 6], [5])])
def whole_Div.B6 : List Nat := [0, 0, 3, 0, 0, 31, 63, 127]
theorem whole_Div.tab6 : rtab .any (opsOf Try.f11 6) = whole_Div.T6 := by kernel_rfl
theorem whole_Div.bits6 : waitsOk whole_Div.T6.2 whole_Div.B6 = true := by kernel_rfl
set_option maxHeartbeats 8000000 in
set_option maxRecDepth 100000 in
theorem whole_Div.calls (k : Nat) (a0_0 : Bool) (A0_1 : Option Addr) (c0_1 : Nat) (l0_1 : List Int) (a1_0 : Bool) (A1_1 : Option Addr) (c1_1 : Nat) (l1_1 : List Int) (r1 : Bool) (r2 : List Int) (r3 : Bool) (r4 : List Int) (r5 : Bool) (w : World) (hr0_1 : Kd.C (Kd.int .u32) w A0_1 l0_1.length l0_1) (hc0_1 : l0_1.length ≤ c0_1) (hr1_1 : Kd.C (Kd.int .u32) w A1_1 l1_1.length l1_1) (hc1_1 : l1_1.length ≤ c1_1) (h : whole_Div.f k a0_0 l0_1 a1_0 l1_1 = some (r1, r2, r3, r4, r5)) :
  Calls Try.prog 11 #[.agg #[.bool a0_0, .slice A0_1 l0_1.length c0_1], .agg #[.bool a1_0, .slice A1_1 l1_1.length c1_1]] w fun e w' => ∃ v1_ v3_ : Value, e = .returned (.tuple #[.agg #[.bool r1, v1_], .agg #[.bool r3, v3_], .bool r5]) ∧ Kd.R (Kd.int .u32) 47 w' w.heap.size (fun k_ => some k_ ≠ (v3_ : Value).ownBlock) v1_ r2 ∧ Kd.R (Kd.int .u32) 47 w' w.heap.size (fun k_ => some k_ ≠ (v1_ : Value).ownBlock) v3_ r4 ∧ Below w.heap.size w w' := by
 have hu24 := Try.underlying24
 have HR0_1 := Aside0.mk hr0_1
 have HC0_1 := Aside0.mk hc0_1
 clear hr0_1 hc0_1
 have HR1_1 := Aside0.mk hr1_1
 have HC1_1 := Aside0.mk hc1_1
 clear hr1_1 hc1_1
 have HB := Aside0.mk (Below.refl w.heap.size w)
 have H : ((nat_Div.f k l0_1 l1_1).bind fun bt357 => (if bt357.2.2 = true then ((whole_Make.f k (a0_0 != a1_0) bt357.1).bind fun bt364 => ((whole_Make.f k a0_0 bt357.2.1).bind fun bt368 => ((whole_Sign.f k bt368.1 bt368.2).bind fun t374 => ((whole_Sign.f k a1_0 l1_1).bind fun t375 => (if (wrap64 (t374 * t375)) < 0 then ((whole_From.f k (-1)).bind fun bt376 => ((whole_Add.f k bt364.1 bt364.2 bt376.1 bt376.2).bind fun bt380 => ((whole_Add.f k bt368.1 bt368.2 a1_0 l1_1).bind fun bt384 => (some (bt380.1, bt380.2, bt384.1, bt384.2, true))))) else (some (bt364.1, bt364.2, bt368.1, bt368.2, true))))))) else (some (false, ([] : List Int), false, ([] : List Int), false)))) = some (r1, r2, r3, r4, r5) := h
 clear h
 replace H := Option.bind_eq_some_iff.mp H
 obtain ⟨⟨t357, t358, t359⟩, A30, H⟩ := H
 (try dsimp only at H)
 have A3 := Aside0.mk A30
 clear A30
 by_cases c4 : t359 = true
 ·subst c4
  have H1 : ((whole_Make.f k (a0_0 != a1_0) t357).bind fun bt364 => ((whole_Make.f k a0_0 t358).bind fun bt368 => ((whole_Sign.f k bt368.1 bt368.2).bind fun t374 => ((whole_Sign.f k a1_0 l1_1).bind fun t375 => (if (wrap64 (t374 * t375)) < 0 then ((whole_From.f k (-1)).bind fun bt376 => ((whole_Add.f k bt364.1 bt364.2 bt376.1 bt376.2).bind fun bt380 => ((whole_Add.f k bt368.1 bt368.2 a1_0 l1_1).bind fun bt384 => (some (bt380.1, bt380.2, bt384.1, bt384.2, true))))) else (some (bt364.1, bt364.2, bt368.1, bt368.2, true))))))) = some (r1, r2, r3, r4, r5) := by rw [if_pos rfl] at H; exact H
  clear H
  have H := H1
  clear H1
  replace H := Option.bind_eq_some_iff.mp H
  obtain ⟨⟨t364, t365⟩, A50, H⟩ := H
  (try dsimp only at H)
  have A5 := Aside0.mk A50
  clear A50
  replace H := Option.bind_eq_some_iff.mp H
  obtain ⟨⟨t368, t369⟩, A60, H⟩ := H
  (try dsimp only at H)
  have A6 := Aside0.mk A60
  clear A60
  replace H := Option.bind_eq_some_iff.mp H
  obtain ⟨t374, A70, H⟩ := H
  (try dsimp only at H)
  have A7 := Aside0.mk A70
  clear A70
  replace H := Option.bind_eq_some_iff.mp H
  obtain ⟨t375, A80, H⟩ := H
  (try dsimp only at H)
  have A8 := Aside0.mk A80
  clear A80
  by_cases c9 : (wrap64 (t374 * t375)) < 0
  ·rw [if_pos c9] at H
   have c9b0 : decide ((wrap64 (t374 * t375)) < 0) = true := decide_eq_true c9
   clear c9
   replace H := Option.bind_eq_some_iff.mp H
   obtain ⟨⟨t376, t377⟩, A100, H⟩ := H
   (try dsimp only at H)
   have A10 := Aside0.mk A100
   clear A100
   replace H := Option.bind_eq_some_iff.mp H
   obtain ⟨⟨t380, t381⟩, A110, H⟩ := H
   (try dsimp only at H)
   have A11 := Aside0.mk A110
   clear A110
   replace H := Option.bind_eq_some_iff.mp H
   obtain ⟨⟨t384, t385⟩, A120, H⟩ := H
   (try dsimp only at H)
   have A12 := Aside0.mk A120
   clear A120
   simp only [Option.some.injEq, Prod.mk.injEq] at H
   obtain ⟨rfl, rfl, rfl, rfl, rfl⟩ := H
   go_enter Try.func11, Try.ntmps11
   try go_wp2_with (first | ((with_reducible refine gate_dst (N := 2) rfl ?_); refine bx_ 2 #[.bool a0_0, .slice A0_1 l0_1.length c0_1] 24 ?_; intro gb353 hg w13 hbox hb; have BK353 := Aside0.mk (hbox); have GW353 := ge_ hg HB; have GE353 := ge_ hg HB; replace HB := bq_ HB hb; clear hb hbox hg) | ((with_reducible refine gate_dst (N := 3) rfl ?_); refine bx_ 3 #[.bool a1_0, .slice A1_1 l1_1.length c1_1] 24 ?_; intro gb354 hg w14 hbox hb; have BK354 := Aside0.mk (hbox); have GW354 := ge_ hg HB; have GE354 := ge_ hg HB; have NB353_354 := nb_ hg BK353; have NB354_353 := nc_ hg BK353; replace BK353 := kq_ BK353 hb; replace HB := bq_ HB hb; clear hb hbox hg) | ((with_reducible refine gate_dst (N := 4) rfl ?_); refine bx_ 4 #[.bool false, .slice none 0 0] 24 ?_; intro gb355 hg w15 hbox hb; have BK355 := Aside0.mk (hbox); have GW355 := ge_ hg HB; have GE355 := ge_ hg HB; have NB353_355 := nb_ hg BK353; have NB355_353 := nc_ hg BK353; have NB354_355 := nb_ hg BK354; have NB355_354 := nc_ hg BK354; replace BK353 := kq_ BK353 hb; replace BK354 := kq_ BK354 hb; replace HB := bq_ HB hb; clear hb hbox hg) | ((with_reducible refine gate_dst (N := 5) rfl ?_); refine bx_ 5 #[.bool false, .slice none 0 0] 24 ?_; intro gb356 hg w16 hbox hb; have BK356 := Aside0.mk (hbox); have GW356 := ge_ hg HB; have GE356 := ge_ hg HB; have NB353_356 := nb_ hg BK353; have NB356_353 := nc_ hg BK353; have NB354_356 := nb_ hg BK354; have NB356_354 := nc_ hg BK354; have NB355_356 := nb_ hg BK355; have NB356_355 := nc_ hg BK355; replace BK353 := kq_ BK353 hb; replace BK354 := kq_ BK354 hb; replace BK355 := kq_ BK355 hb; replace HB := bq_ HB hb; clear hb hbox hg; have hnb17 := NB353_354.out; have hnc17 := NB354_353.out; have hnb18 := NB353_355.out; have hnc18 := NB355_353.out; have hnb19 := NB353_356.out; have hnc19 := NB356_353.out; obtain ⟨hcz20_0, hcz20_1, hfz20_0, hfz20_1⟩ := c2_ BK353; have hnb21 := NB354_355.out; have hnc21 := NB355_354.out; have hnb22 := NB354_356.out; have hnc22 := NB356_354.out; obtain ⟨hcz23_0, hcz23_1, hfz23_0, hfz23_1⟩ := c2_ BK354) | ((with_reducible refine gate_callee (f := 35) rfl ?_); refine gl_ (some 17) Try.func35 #[.slice A0_1 l0_1.length c0_1, .slice A1_1 l1_1.length c1_1] ?_; (with_reducible refine (nat_Div.calls k _ _ l0_1 _ _ l1_1 t357 t358 true _ ?side1 ?side2 ?side3 ?side4 A3.out).mono ?_); (case side1 => exact kc_ (Kd.C_below HR0_1.out HB.out)); (case side2 => exact HC0_1.out); (case side3 => exact kc_ (Kd.C_below HR1_1.out HB.out)); (case side4 => exact HC1_1.out); rintro e w24 ⟨v360, v362, rfl, ho0, ho1, hb⟩; refine ⟨_, rfl, ?_⟩; have HO361 := Aside0.mk (Kd.R_lower ho0 (below_size (bw_ HB.out))); have HO363 := Aside0.mk (Kd.R_lower ho1 (below_size (bw_ HB.out))); replace BK353 := kq_ BK353 hb; replace BK354 := kq_ BK354 hb; replace BK355 := kq_ BK355 hb; replace BK356 := kq_ BK356 hb; replace HB := bq_ HB hb; (try clear hb); (try clear hb2); (try clear hk); (try clear hi); (try clear ho0); (try clear ho1); obtain ⟨Ao25, co25, eo25⟩ := Kd.R_slice HO361.out; subst eo25; obtain ⟨Ao26, co26, eo26⟩ := Kd.R_slice HO363.out; subst eo26))
   replace HO361 := Aside0.mk (Kd.R_drew HO361.out)
   replace HO363 := Aside0.mk (Kd.R_drew HO363.out)
   replace BK353 := Aside0.mk (blk_drew BK353.out)
   replace BK354 := Aside0.mk (blk_drew BK354.out)
   replace BK355 := Aside0.mk (blk_drew BK355.out)
   replace BK356 := Aside0.mk (blk_drew BK356.out)
   replace HB := Aside0.mk (below_drew1 HB.out)
   refine start_ (n := 15) (S := fun w' => w'.cell? ⟨gb353, 0, none⟩ = some (.bool a0_0) ∧ w'.cell? ⟨gb353, 1, none⟩ = some (.slice A0_1 l0_1.length c0_1) ∧ w'.cell? ⟨gb354, 0, none⟩ = some (.bool a1_0) ∧ w'.cell? ⟨gb354, 1, none⟩ = some (.slice A1_1 l1_1.length c1_1)) (ds := []) #[false, false, false, false, false, false, false, false, false, false, false, false, false, false, false] (by kernel_rfl) rfl rfl ⟨(blk_cell BK353.out 0).trans rfl, (blk_cell BK353.out 1).trans rfl, (blk_cell BK354.out 0).trans rfl, (blk_cell BK354.out 1).trans rfl⟩ (fun hHeld => ?_); refine with_tabW whole_Div.tab4 whole_Div.bits4 (fun HT_ HW_ => ?_)
   generalize w24.drew = w27 at HO361 HO363 BK353 BK354 BK355 BK356 HB hHeld ⊢
   refine pure_ (i := 0) (N := some 25) (v := ?_) (a' := ?_) #[true, false, false, false, false, false, false, false, false, false, false, false, false, false, false] rfl rfl (any_of HT_.out (by kernel_rfl)) (fun _ _ _ h => h) (Or.inl ⟨by rfl, ?_⟩) ?_ ?_
   rotate_left
   ·intro w'
    go_simp
    with_reducible rfl
   rotate_left
   ·exact pt_
   refine pure_ (i := 2) (N := some 27) (v := ?_) (a' := ?_) #[true, false, true, false, false, false, false, false, false, false, false, false, false, false, false] rfl rfl (any_of HT_.out (by kernel_rfl)) (fun _ _ _ h => h) (Or.inl ⟨by rfl, ?_⟩) ?_ ?_
   rotate_left
   ·intro w'
    go_simp
    with_reducible rfl
   rotate_left
   ·exact pt_
   refine pure_ (i := 5) (N := some 30) (v := ?_) (a' := ?_) #[true, false, true, false, false, true, false, false, false, false, false, false, false, false, false] rfl rfl (any_of HT_.out (by kernel_rfl)) (fun _ _ _ h => h) (Or.inl ⟨by rfl, ?_⟩) ?_ ?_
   rotate_left
   ·intro w'
    go_simp
    with_reducible rfl
   rotate_left
   ·exact pt_
   refine pure_ (i := 7) (N := some 32) (v := ?_) (a' := ?_) #[true, false, true, false, false, true, false, true, false, false, false, false, false, false, false] rfl rfl (any_of HT_.out (by kernel_rfl)) (fun _ _ _ h => h) (Or.inl ⟨by rfl, ?_⟩) ?_ ?_
   rotate_left
   ·intro w'
    go_simp
    with_reducible rfl
   rotate_left
   ·exact pt_
   refine pure_ (i := 9) (N := some 34) (v := ?_) (a' := ?_) #[true, false, true, false, false, true, false, true, false, true, false, false, false, false, false] rfl rfl (any_of HT_.out (by kernel_rfl)) (fun _ _ _ h => h) (Or.inl ⟨by rfl, ?_⟩) ?_ ?_
   rotate_left
   ·intro w'
    go_simp
    with_reducible rfl
   rotate_left
   ·exact pt_
   refine take_ (i := 1) (N := some 26) (v := ?_) (a' := ?_) #[true, true, true, false, false, true, false, true, false, true, false, false, false, false, false] rfl rfl (take_ofW HT_.out HW_.out (by kernel_rfl)) (fun _ _ _ h => h) (Or.inl ⟨by rfl, ?_⟩) hHeld ?_ ?_
   rotate_left
   ·rintro w' ⟨s0, s1, s2, s3⟩
    go_simp
    with_reducible rfl
   rotate_left
   ·exact pt_
   refine take_ (i := 3) (N := some 28) (v := ?_) (a' := ?_) #[true, true, true, true, false, true, false, true, false, true, false, false, false, false, false] rfl rfl (take_ofW HT_.out HW_.out (by kernel_rfl)) (fun _ _ _ h => h) (Or.inl ⟨by rfl, ?_⟩) hHeld ?_ ?_
   rotate_left
   ·rintro w' ⟨s0, s1, s2, s3⟩
    go_simp
    with_reducible rfl
   rotate_left
   ·exact pt_
   refine pure_ (i := 4) (N := some 29) (v := ?_) (a' := ?_) #[true, true, true, true, true, true, false, true, false, true, false, false, false, false, false] rfl rfl (any_of HT_.out (by kernel_rfl)) (fun _ _ _ h => h) (Or.inl ⟨by rfl, ?_⟩) ?_ ?_
   rotate_left
   ·intro w'
    go_simp
    with_reducible rfl
   rotate_left
   ·exact pt_
   refine take_ (i := 8) (N := some 33) (v := ?_) (a' := ?_) #[true, true, true, true, true, true, false, true, true, true, false, false, false, false, false] rfl rfl (take_ofW HT_.out HW_.out (by kernel_rfl)) (fun _ _ _ h => h) (Or.inl ⟨by rfl, ?_⟩) hHeld ?_ ?_
   rotate_left
   ·rintro w' ⟨s0, s1, s2, s3⟩
    go_simp
    with_reducible rfl
   rotate_left
   ·exact pt_
   refine join_ (σ := Value × Value × Nat × Nat) 2 #[true, true, true, true, true, true, true, true, true, true, true, true, true, false, false] (fun s_ => [(31, .agg #[.bool t364, s_.1]), (35, .agg #[.bool t368, s_.2.1]), (10, .pointer (some ⟨s_.2.2.1, 0, none⟩)), (11, .pointer (some ⟨s_.2.2.2, 0, none⟩))]) (fun s_ w' => (w'.cell? ⟨gb353, 0, none⟩ = some (.bool a0_0) ∧ w'.cell? ⟨gb353, 1, none⟩ = some (.slice A0_1 l0_1.length c0_1) ∧ w'.cell? ⟨gb354, 0, none⟩ = some (.bool a1_0) ∧ w'.cell? ⟨gb354, 1, none⟩ = some (.slice A1_1 l1_1.length c1_1)) ∧ (Kd.R (Kd.int .u32) 47 w' w.heap.size (fun k_ => some k_ ≠ (.slice Ao26 t358.length co26 : Value).ownBlock ∧ some k_ ≠ (s_.1 : Value).ownBlock ∧ some k_ ≠ (s_.2.1 : Value).ownBlock) (.slice Ao25 t357.length co25) t357) ∧ (Kd.R (Kd.int .u32) 47 w' w.heap.size (fun k_ => some k_ ≠ (.slice Ao25 t357.length co25 : Value).ownBlock ∧ some k_ ≠ (s_.1 : Value).ownBlock ∧ some k_ ≠ (s_.2.1 : Value).ownBlock) (.slice Ao26 t358.length co26) t358) ∧ (Kd.R (Kd.int .u32) 47 w' w.heap.size (fun k_ => some k_ ≠ (.slice Ao25 t357.length co25 : Value).ownBlock ∧ some k_ ≠ (.slice Ao26 t358.length co26 : Value).ownBlock ∧ some k_ ≠ (s_.2.1 : Value).ownBlock) s_.1 t365) ∧ (Kd.R (Kd.int .u32) 47 w' w.heap.size (fun k_ => some k_ ≠ (.slice Ao25 t357.length co25 : Value).ownBlock ∧ some k_ ≠ (.slice Ao26 t358.length co26 : Value).ownBlock ∧ some k_ ≠ (s_.1 : Value).ownBlock) s_.2.1 t369) ∧ (w'.heap[gb353]? = some (.cells #[.bool a0_0, .slice A0_1 l0_1.length c0_1] 24 (0, 0))) ∧ (w'.heap[gb354]? = some (.cells #[.bool a1_0, .slice A1_1 l1_1.length c1_1] 24 (0, 0))) ∧ (w'.heap[gb355]? = some (.cells #[.bool false, .slice none 0 0] 24 (0, 0))) ∧ (w'.heap[gb356]? = some (.cells #[.bool false, .slice none 0 0] 24 (0, 0))) ∧ (w'.heap[s_.2.2.1]? = some (.cells #[.bool false, .slice none 0 0] 24 (0, 0))) ∧ (w'.heap[s_.2.2.2]? = some (.cells #[.bool false, .slice none 0 0] 24 (0, 0))) ∧ (w.heap.size ≤ s_.2.2.1) ∧ (w.heap.size ≤ s_.2.2.1) ∧ (gb353 ≠ s_.2.2.1) ∧ (s_.2.2.1 ≠ gb353) ∧ (gb354 ≠ s_.2.2.1) ∧ (s_.2.2.1 ≠ gb354) ∧ (gb355 ≠ s_.2.2.1) ∧ (s_.2.2.1 ≠ gb355) ∧ (gb356 ≠ s_.2.2.1) ∧ (s_.2.2.1 ≠ gb356) ∧ (s_.2.2.2 ≠ s_.2.2.1) ∧ (s_.2.2.1 ≠ s_.2.2.2) ∧ (w.heap.size ≤ s_.2.2.2) ∧ (w.heap.size ≤ s_.2.2.2) ∧ (gb353 ≠ s_.2.2.2) ∧ (s_.2.2.2 ≠ gb353) ∧ (gb354 ≠ s_.2.2.2) ∧ (s_.2.2.2 ≠ gb354) ∧ (gb355 ≠ s_.2.2.2) ∧ (s_.2.2.2 ≠ gb355) ∧ (gb356 ≠ s_.2.2.2) ∧ (s_.2.2.2 ≠ gb356) ∧ (Below w.heap.size w w')) ?_ ?_
   rotate_left
   ·intro hJ6_10_11_12
    refine join_ (σ := Value × Value × Nat) 3 #[true, true, true, true, true, true, true, true, true, true, true, true, false, false, false] (fun s_ => [(31, .agg #[.bool t364, s_.1]), (35, .agg #[.bool t368, s_.2.1]), (10, .pointer (some ⟨s_.2.2, 0, none⟩))]) (fun s_ w' => (w'.cell? ⟨gb353, 0, none⟩ = some (.bool a0_0) ∧ w'.cell? ⟨gb353, 1, none⟩ = some (.slice A0_1 l0_1.length c0_1) ∧ w'.cell? ⟨gb354, 0, none⟩ = some (.bool a1_0) ∧ w'.cell? ⟨gb354, 1, none⟩ = some (.slice A1_1 l1_1.length c1_1)) ∧ (Kd.R (Kd.int .u32) 47 w' w.heap.size (fun k_ => some k_ ≠ (.slice Ao26 t358.length co26 : Value).ownBlock ∧ some k_ ≠ (s_.1 : Value).ownBlock ∧ some k_ ≠ (s_.2.1 : Value).ownBlock) (.slice Ao25 t357.length co25) t357) ∧ (Kd.R (Kd.int .u32) 47 w' w.heap.size (fun k_ => some k_ ≠ (.slice Ao25 t357.length co25 : Value).ownBlock ∧ some k_ ≠ (s_.1 : Value).ownBlock ∧ some k_ ≠ (s_.2.1 : Value).ownBlock) (.slice Ao26 t358.length co26) t358) ∧ (Kd.R (Kd.int .u32) 47 w' w.heap.size (fun k_ => some k_ ≠ (.slice Ao25 t357.length co25 : Value).ownBlock ∧ some k_ ≠ (.slice Ao26 t358.length co26 : Value).ownBlock ∧ some k_ ≠ (s_.2.1 : Value).ownBlock) s_.1 t365) ∧ (Kd.R (Kd.int .u32) 47 w' w.heap.size (fun k_ => some k_ ≠ (.slice Ao25 t357.length co25 : Value).ownBlock ∧ some k_ ≠ (.slice Ao26 t358.length co26 : Value).ownBlock ∧ some k_ ≠ (s_.1 : Value).ownBlock) s_.2.1 t369) ∧ (w'.heap[gb353]? = some (.cells #[.bool a0_0, .slice A0_1 l0_1.length c0_1] 24 (0, 0))) ∧ (w'.heap[gb354]? = some (.cells #[.bool a1_0, .slice A1_1 l1_1.length c1_1] 24 (0, 0))) ∧ (w'.heap[gb355]? = some (.cells #[.bool false, .slice none 0 0] 24 (0, 0))) ∧ (w'.heap[gb356]? = some (.cells #[.bool false, .slice none 0 0] 24 (0, 0))) ∧ (w'.heap[s_.2.2]? = some (.cells #[.bool false, .slice none 0 0] 24 (0, 0))) ∧ (w.heap.size ≤ s_.2.2) ∧ (w.heap.size ≤ s_.2.2) ∧ (gb353 ≠ s_.2.2) ∧ (s_.2.2 ≠ gb353) ∧ (gb354 ≠ s_.2.2) ∧ (s_.2.2 ≠ gb354) ∧ (gb355 ≠ s_.2.2) ∧ (s_.2.2 ≠ gb355) ∧ (gb356 ≠ s_.2.2) ∧ (s_.2.2 ≠ gb356) ∧ (Below w.heap.size w w')) ?_ ?_
    rotate_left
    ·intro hJ6_10_11
     refine join_ (σ := Value × Value × Nat) 3 #[true, true, true, true, true, true, true, true, true, true, true, false, true, false, false] (fun s_ => [(31, .agg #[.bool t364, s_.1]), (35, .agg #[.bool t368, s_.2.1]), (11, .pointer (some ⟨s_.2.2, 0, none⟩))]) (fun s_ w' => (w'.cell? ⟨gb353, 0, none⟩ = some (.bool a0_0) ∧ w'.cell? ⟨gb353, 1, none⟩ = some (.slice A0_1 l0_1.length c0_1) ∧ w'.cell? ⟨gb354, 0, none⟩ = some (.bool a1_0) ∧ w'.cell? ⟨gb354, 1, none⟩ = some (.slice A1_1 l1_1.length c1_1)) ∧ (Kd.R (Kd.int .u32) 47 w' w.heap.size (fun k_ => some k_ ≠ (.slice Ao26 t358.length co26 : Value).ownBlock ∧ some k_ ≠ (s_.1 : Value).ownBlock ∧ some k_ ≠ (s_.2.1 : Value).ownBlock) (.slice Ao25 t357.length co25) t357) ∧ (Kd.R (Kd.int .u32) 47 w' w.heap.size (fun k_ => some k_ ≠ (.slice Ao25 t357.length co25 : Value).ownBlock ∧ some k_ ≠ (s_.1 : Value).ownBlock ∧ some k_ ≠ (s_.2.1 : Value).ownBlock) (.slice Ao26 t358.length co26) t358) ∧ (Kd.R (Kd.int .u32) 47 w' w.heap.size (fun k_ => some k_ ≠ (.slice Ao25 t357.length co25 : Value).ownBlock ∧ some k_ ≠ (.slice Ao26 t358.length co26 : Value).ownBlock ∧ some k_ ≠ (s_.2.1 : Value).ownBlock) s_.1 t365) ∧ (Kd.R (Kd.int .u32) 47 w' w.heap.size (fun k_ => some k_ ≠ (.slice Ao25 t357.length co25 : Value).ownBlock ∧ some k_ ≠ (.slice Ao26 t358.length co26 : Value).ownBlock ∧ some k_ ≠ (s_.1 : Value).ownBlock) s_.2.1 t369) ∧ (w'.heap[gb353]? = some (.cells #[.bool a0_0, .slice A0_1 l0_1.length c0_1] 24 (0, 0))) ∧ (w'.heap[gb354]? = some (.cells #[.bool a1_0, .slice A1_1 l1_1.length c1_1] 24 (0, 0))) ∧ (w'.heap[gb355]? = some (.cells #[.bool false, .slice none 0 0] 24 (0, 0))) ∧ (w'.heap[gb356]? = some (.cells #[.bool false, .slice none 0 0] 24 (0, 0))) ∧ (w'.heap[s_.2.2]? = some (.cells #[.bool false, .slice none 0 0] 24 (0, 0))) ∧ (w.heap.size ≤ s_.2.2) ∧ (w.heap.size ≤ s_.2.2) ∧ (gb353 ≠ s_.2.2) ∧ (s_.2.2 ≠ gb353) ∧ (gb354 ≠ s_.2.2) ∧ (s_.2.2 ≠ gb354) ∧ (gb355 ≠ s_.2.2) ∧ (s_.2.2 ≠ gb355) ∧ (gb356 ≠ s_.2.2) ∧ (s_.2.2 ≠ gb356) ∧ (Below w.heap.size w w')) ?_ ?_
     rotate_left
     ·intro hJ6_10_12
      refine join_ (σ := Value × Nat × Nat) 3 #[true, true, true, true, true, true, true, true, true, true, false, true, true, false, false] (fun s_ => [(31, .agg #[.bool t364, s_.1]), (10, .pointer (some ⟨s_.2.1, 0, none⟩)), (11, .pointer (some ⟨s_.2.2, 0, none⟩))]) (fun s_ w' => (w'.cell? ⟨gb353, 0, none⟩ = some (.bool a0_0) ∧ w'.cell? ⟨gb353, 1, none⟩ = some (.slice A0_1 l0_1.length c0_1) ∧ w'.cell? ⟨gb354, 0, none⟩ = some (.bool a1_0) ∧ w'.cell? ⟨gb354, 1, none⟩ = some (.slice A1_1 l1_1.length c1_1)) ∧ (Kd.R (Kd.int .u32) 47 w' w.heap.size (fun k_ => some k_ ≠ (.slice Ao26 t358.length co26 : Value).ownBlock ∧ some k_ ≠ (s_.1 : Value).ownBlock) (.slice Ao25 t357.length co25) t357) ∧ (Kd.R (Kd.int .u32) 47 w' w.heap.size (fun k_ => some k_ ≠ (.slice Ao25 t357.length co25 : Value).ownBlock ∧ some k_ ≠ (s_.1 : Value).ownBlock) (.slice Ao26 t358.length co26) t358) ∧ (Kd.R (Kd.int .u32) 47 w' w.heap.size (fun k_ => some k_ ≠ (.slice Ao25 t357.length co25 : Value).ownBlock ∧ some k_ ≠ (.slice Ao26 t358.length co26 : Value).ownBlock) s_.1 t365) ∧ (w'.heap[gb353]? = some (.cells #[.bool a0_0, .slice A0_1 l0_1.length c0_1] 24 (0, 0))) ∧ (w'.heap[gb354]? = some (.cells #[.bool a1_0, .slice A1_1 l1_1.length c1_1] 24 (0, 0))) ∧ (w'.heap[gb355]? = some (.cells #[.bool false, .slice none 0 0] 24 (0, 0))) ∧ (w'.heap[gb356]? = some (.cells #[.bool false, .slice none 0 0] 24 (0, 0))) ∧ (w'.heap[s_.2.1]? = some (.cells #[.bool false, .slice none 0 0] 24 (0, 0))) ∧ (w'.heap[s_.2.2]? = some (.cells #[.bool false, .slice none 0 0] 24 (0, 0))) ∧ (w.heap.size ≤ s_.2.1) ∧ (w.heap.size ≤ s_.2.1) ∧ (gb353 ≠ s_.2.1) ∧ (s_.2.1 ≠ gb353) ∧ (gb354 ≠ s_.2.1) ∧ (s_.2.1 ≠ gb354) ∧ (gb355 ≠ s_.2.1) ∧ (s_.2.1 ≠ gb355) ∧ (gb356 ≠ s_.2.1) ∧ (s_.2.1 ≠ gb356) ∧ (s_.2.2 ≠ s_.2.1) ∧ (s_.2.1 ≠ s_.2.2) ∧ (w.heap.size ≤ s_.2.2) ∧ (w.heap.size ≤ s_.2.2) ∧ (gb353 ≠ s_.2.2) ∧ (s_.2.2 ≠ gb353) ∧ (gb354 ≠ s_.2.2) ∧ (s_.2.2 ≠ gb354) ∧ (gb355 ≠ s_.2.2) ∧ (s_.2.2 ≠ gb355) ∧ (gb356 ≠ s_.2.2) ∧ (s_.2.2 ≠ gb356) ∧ (Below w.heap.size w w')) ?_ ?_
      rotate_left
      ·intro hJ6_11_12
       refine join_ (σ := Value × Value) 4 #[true, true, true, true, true, true, true, true, true, true, true, false, false, false, false] (fun s_ => [(31, .agg #[.bool t364, s_.1]), (35, .agg #[.bool t368, s_.2])]) (fun s_ w' => (w'.cell? ⟨gb353, 0, none⟩ = some (.bool a0_0) ∧ w'.cell? ⟨gb353, 1, none⟩ = some (.slice A0_1 l0_1.length c0_1) ∧ w'.cell? ⟨gb354, 0, none⟩ = some (.bool a1_0) ∧ w'.cell? ⟨gb354, 1, none⟩ = some (.slice A1_1 l1_1.length c1_1)) ∧ (Kd.R (Kd.int .u32) 47 w' w.heap.size (fun k_ => some k_ ≠ (.slice Ao26 t358.length co26 : Value).ownBlock ∧ some k_ ≠ (s_.1 : Value).ownBlock ∧ some k_ ≠ (s_.2 : Value).ownBlock) (.slice Ao25 t357.length co25) t357) ∧ (Kd.R (Kd.int .u32) 47 w' w.heap.size (fun k_ => some k_ ≠ (.slice Ao25 t357.length co25 : Value).ownBlock ∧ some k_ ≠ (s_.1 : Value).ownBlock ∧ some k_ ≠ (s_.2 : Value).ownBlock) (.slice Ao26 t358.length co26) t358) ∧ (Kd.R (Kd.int .u32) 47 w' w.heap.size (fun k_ => some k_ ≠ (.slice Ao25 t357.length co25 : Value).ownBlock ∧ some k_ ≠ (.slice Ao26 t358.length co26 : Value).ownBlock ∧ some k_ ≠ (s_.2 : Value).ownBlock) s_.1 t365) ∧ (Kd.R (Kd.int .u32) 47 w' w.heap.size (fun k_ => some k_ ≠ (.slice Ao25 t357.length co25 : Value).ownBlock ∧ some k_ ≠ (.slice Ao26 t358.length co26 : Value).ownBlock ∧ some k_ ≠ (s_.1 : Value).ownBlock) s_.2 t369) ∧ (w'.heap[gb353]? = some (.cells #[.bool a0_0, .slice A0_1 l0_1.length c0_1] 24 (0, 0))) ∧ (w'.heap[gb354]? = some (.cells #[.bool a1_0, .slice A1_1 l1_1.length c1_1] 24 (0, 0))) ∧ (w'.heap[gb355]? = some (.cells #[.bool false, .slice none 0 0] 24 (0, 0))) ∧ (w'.heap[gb356]? = some (.cells #[.bool false, .slice none 0 0] 24 (0, 0))) ∧ (Below w.heap.size w w')) ?_ ?_
       rotate_left
       ·intro hJ6_10
        refine join_ (σ := Value × Nat) 4 #[true, true, true, true, true, true, true, true, true, true, false, true, false, false, false] (fun s_ => [(31, .agg #[.bool t364, s_.1]), (10, .pointer (some ⟨s_.2, 0, none⟩))]) (fun s_ w' => (w'.cell? ⟨gb353, 0, none⟩ = some (.bool a0_0) ∧ w'.cell? ⟨gb353, 1, none⟩ = some (.slice A0_1 l0_1.length c0_1) ∧ w'.cell? ⟨gb354, 0, none⟩ = some (.bool a1_0) ∧ w'.cell? ⟨gb354, 1, none⟩ = some (.slice A1_1 l1_1.length c1_1)) ∧ (Kd.R (Kd.int .u32) 47 w' w.heap.size (fun k_ => some k_ ≠ (.slice Ao26 t358.length co26 : Value).ownBlock ∧ some k_ ≠ (s_.1 : Value).ownBlock) (.slice Ao25 t357.length co25) t357) ∧ (Kd.R (Kd.int .u32) 47 w' w.heap.size (fun k_ => some k_ ≠ (.slice Ao25 t357.length co25 : Value).ownBlock ∧ some k_ ≠ (s_.1 : Value).ownBlock) (.slice Ao26 t358.length co26) t358) ∧ (Kd.R (Kd.int .u32) 47 w' w.heap.size (fun k_ => some k_ ≠ (.slice Ao25 t357.length co25 : Value).ownBlock ∧ some k_ ≠ (.slice Ao26 t358.length co26 : Value).ownBlock) s_.1 t365) ∧ (w'.heap[gb353]? = some (.cells #[.bool a0_0, .slice A0_1 l0_1.length c0_1] 24 (0, 0))) ∧ (w'.heap[gb354]? = some (.cells #[.bool a1_0, .slice A1_1 l1_1.length c1_1] 24 (0, 0))) ∧ (w'.heap[gb355]? = some (.cells #[.bool false, .slice none 0 0] 24 (0, 0))) ∧ (w'.heap[gb356]? = some (.cells #[.bool false, .slice none 0 0] 24 (0, 0))) ∧ (w'.heap[s_.2]? = some (.cells #[.bool false, .slice none 0 0] 24 (0, 0))) ∧ (w.heap.size ≤ s_.2) ∧ (w.heap.size ≤ s_.2) ∧ (gb353 ≠ s_.2) ∧ (s_.2 ≠ gb353) ∧ (gb354 ≠ s_.2) ∧ (s_.2 ≠ gb354) ∧ (gb355 ≠ s_.2) ∧ (s_.2 ≠ gb355) ∧ (gb356 ≠ s_.2) ∧ (s_.2 ≠ gb356) ∧ (Below w.heap.size w w')) ?_ ?_
        rotate_left
        ·intro hJ6_11
         refine join_ (σ := Value × Nat) 4 #[true, true, true, true, true, true, true, true, true, true, false, false, true, false, false] (fun s_ => [(31, .agg #[.bool t364, s_.1]), (11, .pointer (some ⟨s_.2, 0, none⟩))]) (fun s_ w' => (w'.cell? ⟨gb353, 0, none⟩ = some (.bool a0_0) ∧ w'.cell? ⟨gb353, 1, none⟩ = some (.slice A0_1 l0_1.length c0_1) ∧ w'.cell? ⟨gb354, 0, none⟩ = some (.bool a1_0) ∧ w'.cell? ⟨gb354, 1, none⟩ = some (.slice A1_1 l1_1.length c1_1)) ∧ (Kd.R (Kd.int .u32) 47 w' w.heap.size (fun k_ => some k_ ≠ (.slice Ao26 t358.length co26 : Value).ownBlock ∧ some k_ ≠ (s_.1 : Value).ownBlock) (.slice Ao25 t357.length co25) t357) ∧ (Kd.R (Kd.int .u32) 47 w' w.heap.size (fun k_ => some k_ ≠ (.slice Ao25 t357.length co25 : Value).ownBlock ∧ some k_ ≠ (s_.1 : Value).ownBlock) (.slice Ao26 t358.length co26) t358) ∧ (Kd.R (Kd.int .u32) 47 w' w.heap.size (fun k_ => some k_ ≠ (.slice Ao25 t357.length co25 : Value).ownBlock ∧ some k_ ≠ (.slice Ao26 t358.length co26 : Value).ownBlock) s_.1 t365) ∧ (w'.heap[gb353]? = some (.cells #[.bool a0_0, .slice A0_1 l0_1.length c0_1] 24 (0, 0))) ∧ (w'.heap[gb354]? = some (.cells #[.bool a1_0, .slice A1_1 l1_1.length c1_1] 24 (0, 0))) ∧ (w'.heap[gb355]? = some (.cells #[.bool false, .slice none 0 0] 24 (0, 0))) ∧ (w'.heap[gb356]? = some (.cells #[.bool false, .slice none 0 0] 24 (0, 0))) ∧ (w'.heap[s_.2]? = some (.cells #[.bool false, .slice none 0 0] 24 (0, 0))) ∧ (w.heap.size ≤ s_.2) ∧ (w.heap.size ≤ s_.2) ∧ (gb353 ≠ s_.2) ∧ (s_.2 ≠ gb353) ∧ (gb354 ≠ s_.2) ∧ (s_.2 ≠ gb354) ∧ (gb355 ≠ s_.2) ∧ (s_.2 ≠ gb355) ∧ (gb356 ≠ s_.2) ∧ (s_.2 ≠ gb356) ∧ (Below w.heap.size w w')) ?_ ?_
         rotate_left
         ·intro hJ6_12
          refine join_ (σ := Nat × Nat) 4 #[true, true, true, true, true, true, false, true, true, true, false, true, true, false, false] (fun s_ => [(10, .pointer (some ⟨s_.1, 0, none⟩)), (11, .pointer (some ⟨s_.2, 0, none⟩))]) (fun s_ w' => (w'.cell? ⟨gb353, 0, none⟩ = some (.bool a0_0) ∧ w'.cell? ⟨gb353, 1, none⟩ = some (.slice A0_1 l0_1.length c0_1) ∧ w'.cell? ⟨gb354, 0, none⟩ = some (.bool a1_0) ∧ w'.cell? ⟨gb354, 1, none⟩ = some (.slice A1_1 l1_1.length c1_1)) ∧ (Kd.R (Kd.int .u32) 47 w' w.heap.size (fun k_ => some k_ ≠ (.slice Ao26 t358.length co26 : Value).ownBlock) (.slice Ao25 t357.length co25) t357) ∧ (Kd.R (Kd.int .u32) 47 w' w.heap.size (fun k_ => some k_ ≠ (.slice Ao25 t357.length co25 : Value).ownBlock) (.slice Ao26 t358.length co26) t358) ∧ (w'.heap[gb353]? = some (.cells #[.bool a0_0, .slice A0_1 l0_1.length c0_1] 24 (0, 0))) ∧ (w'.heap[gb354]? = some (.cells #[.bool a1_0, .slice A1_1 l1_1.length c1_1] 24 (0, 0))) ∧ (w'.heap[gb355]? = some (.cells #[.bool false, .slice none 0 0] 24 (0, 0))) ∧ (w'.heap[gb356]? = some (.cells #[.bool false, .slice none 0 0] 24 (0, 0))) ∧ (w'.heap[s_.1]? = some (.cells #[.bool false, .slice none 0 0] 24 (0, 0))) ∧ (w'.heap[s_.2]? = some (.cells #[.bool false, .slice none 0 0] 24 (0, 0))) ∧ (w.heap.size ≤ s_.1) ∧ (w.heap.size ≤ s_.1) ∧ (gb353 ≠ s_.1) ∧ (s_.1 ≠ gb353) ∧ (gb354 ≠ s_.1) ∧ (s_.1 ≠ gb354) ∧ (gb355 ≠ s_.1) ∧ (s_.1 ≠ gb355) ∧ (gb356 ≠ s_.1) ∧ (s_.1 ≠ gb356) ∧ (s_.2 ≠ s_.1) ∧ (s_.1 ≠ s_.2) ∧ (w.heap.size ≤ s_.2) ∧ (w.heap.size ≤ s_.2) ∧ (gb353 ≠ s_.2) ∧ (s_.2 ≠ gb353) ∧ (gb354 ≠ s_.2) ∧ (s_.2 ≠ gb354) ∧ (gb355 ≠ s_.2) ∧ (s_.2 ≠ gb355) ∧ (gb356 ≠ s_.2) ∧ (s_.2 ≠ gb356) ∧ (Below w.heap.size w w')) ?_ ?_
          rotate_left
          ·intro hJ11_12
           refine join_ (σ := Value) 5 #[true, true, true, true, true, true, true, true, true, true, false, false, false, false, false] (fun s_ => [(31, .agg #[.bool t364, s_])]) (fun s_ w' => (w'.cell? ⟨gb353, 0, none⟩ = some (.bool a0_0) ∧ w'.cell? ⟨gb353, 1, none⟩ = some (.slice A0_1 l0_1.length c0_1) ∧ w'.cell? ⟨gb354, 0, none⟩ = some (.bool a1_0) ∧ w'.cell? ⟨gb354, 1, none⟩ = some (.slice A1_1 l1_1.length c1_1)) ∧ (Kd.R (Kd.int .u32) 47 w' w.heap.size (fun k_ => some k_ ≠ (.slice Ao26 t358.length co26 : Value).ownBlock ∧ some k_ ≠ (s_ : Value).ownBlock) (.slice Ao25 t357.length co25) t357) ∧ (Kd.R (Kd.int .u32) 47 w' w.heap.size (fun k_ => some k_ ≠ (.slice Ao25 t357.length co25 : Value).ownBlock ∧ some k_ ≠ (s_ : Value).ownBlock) (.slice Ao26 t358.length co26) t358) ∧ (Kd.R (Kd.int .u32) 47 w' w.heap.size (fun k_ => some k_ ≠ (.slice Ao25 t357.length co25 : Value).ownBlock ∧ some k_ ≠ (.slice Ao26 t358.length co26 : Value).ownBlock) s_ t365) ∧ (w'.heap[gb353]? = some (.cells #[.bool a0_0, .slice A0_1 l0_1.length c0_1] 24 (0, 0))) ∧ (w'.heap[gb354]? = some (.cells #[.bool a1_0, .slice A1_1 l1_1.length c1_1] 24 (0, 0))) ∧ (w'.heap[gb355]? = some (.cells #[.bool false, .slice none 0 0] 24 (0, 0))) ∧ (w'.heap[gb356]? = some (.cells #[.bool false, .slice none 0 0] 24 (0, 0))) ∧ (Below w.heap.size w w')) ?_ ?_
           rotate_left
           ·intro hJ6
            refine join_ (σ := Nat) 5 #[true, true, true, true, true, true, false, true, true, true, false, true, false, false, false] (fun s_ => [(10, .pointer (some ⟨s_, 0, none⟩))]) (fun s_ w' => (w'.cell? ⟨gb353, 0, none⟩ = some (.bool a0_0) ∧ w'.cell? ⟨gb353, 1, none⟩ = some (.slice A0_1 l0_1.length c0_1) ∧ w'.cell? ⟨gb354, 0, none⟩ = some (.bool a1_0) ∧ w'.cell? ⟨gb354, 1, none⟩ = some (.slice A1_1 l1_1.length c1_1)) ∧ (Kd.R (Kd.int .u32) 47 w' w.heap.size (fun k_ => some k_ ≠ (.slice Ao26 t358.length co26 : Value).ownBlock) (.slice Ao25 t357.length co25) t357) ∧ (Kd.R (Kd.int .u32) 47 w' w.heap.size (fun k_ => some k_ ≠ (.slice Ao25 t357.length co25 : Value).ownBlock) (.slice Ao26 t358.length co26) t358) ∧ (w'.heap[gb353]? = some (.cells #[.bool a0_0, .slice A0_1 l0_1.length c0_1] 24 (0, 0))) ∧ (w'.heap[gb354]? = some (.cells #[.bool a1_0, .slice A1_1 l1_1.length c1_1] 24 (0, 0))) ∧ (w'.heap[gb355]? = some (.cells #[.bool false, .slice none 0 0] 24 (0, 0))) ∧ (w'.heap[gb356]? = some (.cells #[.bool false, .slice none 0 0] 24 (0, 0))) ∧ (w'.heap[s_]? = some (.cells #[.bool false, .slice none 0 0] 24 (0, 0))) ∧ (w.heap.size ≤ s_) ∧ (w.heap.size ≤ s_) ∧ (gb353 ≠ s_) ∧ (s_ ≠ gb353) ∧ (gb354 ≠ s_) ∧ (s_ ≠ gb354) ∧ (gb355 ≠ s_) ∧ (s_ ≠ gb355) ∧ (gb356 ≠ s_) ∧ (s_ ≠ gb356) ∧ (Below w.heap.size w w')) ?_ ?_
            rotate_left
            ·intro hJ11
             refine join_ (σ := Nat) 5 #[true, true, true, true, true, true, false, true, true, true, false, false, true, false, false] (fun s_ => [(11, .pointer (some ⟨s_, 0, none⟩))]) (fun s_ w' => (w'.cell? ⟨gb353, 0, none⟩ = some (.bool a0_0) ∧ w'.cell? ⟨gb353, 1, none⟩ = some (.slice A0_1 l0_1.length c0_1) ∧ w'.cell? ⟨gb354, 0, none⟩ = some (.bool a1_0) ∧ w'.cell? ⟨gb354, 1, none⟩ = some (.slice A1_1 l1_1.length c1_1)) ∧ (Kd.R (Kd.int .u32) 47 w' w.heap.size (fun k_ => some k_ ≠ (.slice Ao26 t358.length co26 : Value).ownBlock) (.slice Ao25 t357.length co25) t357) ∧ (Kd.R (Kd.int .u32) 47 w' w.heap.size (fun k_ => some k_ ≠ (.slice Ao25 t357.length co25 : Value).ownBlock) (.slice Ao26 t358.length co26) t358) ∧ (w'.heap[gb353]? = some (.cells #[.bool a0_0, .slice A0_1 l0_1.length c0_1] 24 (0, 0))) ∧ (w'.heap[gb354]? = some (.cells #[.bool a1_0, .slice A1_1 l1_1.length c1_1] 24 (0, 0))) ∧ (w'.heap[gb355]? = some (.cells #[.bool false, .slice none 0 0] 24 (0, 0))) ∧ (w'.heap[gb356]? = some (.cells #[.bool false, .slice none 0 0] 24 (0, 0))) ∧ (w'.heap[s_]? = some (.cells #[.bool false, .slice none 0 0] 24 (0, 0))) ∧ (w.heap.size ≤ s_) ∧ (w.heap.size ≤ s_) ∧ (gb353 ≠ s_) ∧ (s_ ≠ gb353) ∧ (gb354 ≠ s_) ∧ (s_ ≠ gb354) ∧ (gb355 ≠ s_) ∧ (s_ ≠ gb355) ∧ (gb356 ≠ s_) ∧ (s_ ≠ gb356) ∧ (Below w.heap.size w w')) ?_ ?_
             rotate_left
             ·intro hJ12
              refine three_ (i := 6) (j := 11) (k := 12) (Ni := some 31) (Nj := some 10) (Nk := some 11) #[true, true, true, true, true, true, true, true, true, true, false, false, false, false, false] #[true, true, true, true, true, true, false, true, true, true, false, true, false, false, false] #[true, true, true, true, true, true, false, true, true, true, false, false, true, false, false] rfl rfl rfl rfl rfl rfl (three_of HT_.out (by kernel_rfl)) (by decide) (by decide) (by decide) (fun K hK => ?_) (fun K hK => ?_) (fun K hK => ?_)
              ·skip
               refine gs_ Try.func16 #[.bool (a0_0 != a1_0), .slice Ao25 t357.length co25] ?_
               with_reducible refine (whole_Make.calls k (a0_0 != a1_0) _ _ t357 t364 t365 _ ?side1 ?side2 A5.out).mono ?_
               (case side1 => exact kc_ (Kd.R_reads' HO361.out).2.2)
               (case side2 => exact (Kd.R_reads' HO361.out).2.1)
               rintro e w28 ⟨v366, rfl, ho0, hb⟩
               refine ⟨_, rfl, ?_⟩
               have HO367 := Aside0.mk (Kd.R_lower (Kd.R_new' (Kd.R_new' ho0 (Kd.R_lt (kr_ HO361.out))) (Kd.R_lt (kr_ HO363.out))) (below_size (bw_ HB.out)))
               replace HO361 := Aside0.mk (Kd.R_elder' (kr_ HO361.out) (Kd.R_base ho0) hb)
               replace HO363 := Aside0.mk (Kd.R_elder' (kr_ HO363.out) (Kd.R_base ho0) hb)
               replace BK353 := kq_ BK353 hb
               replace BK354 := kq_ BK354 hb
               replace BK355 := kq_ BK355 hb
               replace BK356 := kq_ BK356 hb
               replace HB := bq_ HB hb
               (try clear hb)
               (try clear hb2)
               (try clear hk)
               (try clear hi)
               (try clear ho0)
               refine hK.out _ _ ⟨(blk_cell BK353.out 0).trans rfl, (blk_cell BK353.out 1).trans rfl, (blk_cell BK354.out 0).trans rfl, (blk_cell BK354.out 1).trans rfl⟩ (fun hHeld => ?_)
               clear hK K
               refine norm_ (a' := ?_) ?_ ?_
               rotate_left
               ·show Act.put _ (some 31) _ = _
                exact pt_
               exact nr_ (hJ6 (v366) _ ⟨hHeld, (kr_ HO361.out), (kr_ HO363.out), (kr_ (Kd.R_mono HO367.out (fun _ hk => by first | exact ⟨hk.1.2, hk.2⟩ | (simp only [ob_map] at hk ⊢; exact ⟨hk.1.2, hk.2⟩)))), (kb_ BK353.out), (kb_ BK354.out), (kb_ BK355.out), (kb_ BK356.out), (bw_ HB.out)⟩)
              ·skip
               refine box_step ?hg (N := 10) ?hd (cs := #[.bool false, .slice none 0 0]) (t := 24) ?hr ?_; (case hd => rfl); (case hg => rfl); (case hr => first | (go_simp; done) | (go_simp; rfl))
               intro gb372 hg w28 hbox hb
               have BK372 := Aside0.mk (hbox)
               have GW372 := ge_ hg HB
               have GE372 := ge_ hg HB
               have NB353_372 := nb_ hg BK353
               have NB372_353 := nc_ hg BK353
               have NB354_372 := nb_ hg BK354
               have NB372_354 := nc_ hg BK354
               have NB355_372 := nb_ hg BK355
               have NB372_355 := nc_ hg BK355
               have NB356_372 := nb_ hg BK356
               have NB372_356 := nc_ hg BK356
               replace HO361 := Aside0.mk (Kd.R_below (kr_ HO361.out) hb)
               replace HO363 := Aside0.mk (Kd.R_below (kr_ HO363.out) hb)
               replace BK353 := kq_ BK353 hb
               replace BK354 := kq_ BK354 hb
               replace BK355 := kq_ BK355 hb
               replace BK356 := kq_ BK356 hb
               replace HB := bq_ HB hb
               clear hb hbox hg
               refine hK.out _ _ ⟨(blk_cell BK353.out 0).trans rfl, (blk_cell BK353.out 1).trans rfl, (blk_cell BK354.out 0).trans rfl, (blk_cell BK354.out 1).trans rfl⟩ (fun hHeld => ?_)
               clear hK K
               refine norm_ (a' := ?_) ?_ ?_
               rotate_left
               ·show Act.put _ (some 10) _ = _
                exact pt_
               exact nr_ (hJ11 (gb372) _ ⟨hHeld, (kr_ HO361.out), (kr_ HO363.out), (kb_ BK353.out), (kb_ BK354.out), (kb_ BK355.out), (kb_ BK356.out), (kb_ BK372.out), GW372.out, GE372.out, NB353_372.out, NB372_353.out, NB354_372.out, NB372_354.out, NB355_372.out, NB372_355.out, NB356_372.out, NB372_356.out, (bw_ HB.out)⟩)
              ·skip
               refine box_step ?hg (N := 11) ?hd (cs := #[.bool false, .slice none 0 0]) (t := 24) ?hr ?_; (case hd => rfl); (case hg => rfl); (case hr => first | (go_simp; done) | (go_simp; rfl))
               intro gb373 hg w28 hbox hb
               have BK373 := Aside0.mk (hbox)
               have GW373 := ge_ hg HB
               have GE373 := ge_ hg HB
               have NB353_373 := nb_ hg BK353
               have NB373_353 := nc_ hg BK353
               have NB354_373 := nb_ hg BK354
               have NB373_354 := nc_ hg BK354
               have NB355_373 := nb_ hg BK355
               have NB373_355 := nc_ hg BK355
               have NB356_373 := nb_ hg BK356
               have NB373_356 := nc_ hg BK356
               replace HO361 := Aside0.mk (Kd.R_below (kr_ HO361.out) hb)
               replace HO363 := Aside0.mk (Kd.R_below (kr_ HO363.out) hb)
               replace BK353 := kq_ BK353 hb
               replace BK354 := kq_ BK354 hb
               replace BK355 := kq_ BK355 hb
               replace BK356 := kq_ BK356 hb
               replace HB := bq_ HB hb
               clear hb hbox hg
               refine hK.out _ _ ⟨(blk_cell BK353.out 0).trans rfl, (blk_cell BK353.out 1).trans rfl, (blk_cell BK354.out 0).trans rfl, (blk_cell BK354.out 1).trans rfl⟩ (fun hHeld => ?_)
               clear hK K
               refine norm_ (a' := ?_) ?_ ?_
               rotate_left
               ·show Act.put _ (some 11) _ = _
                exact pt_
               exact nr_ (hJ12 (gb373) _ ⟨hHeld, (kr_ HO361.out), (kr_ HO363.out), (kb_ BK353.out), (kb_ BK354.out), (kb_ BK355.out), (kb_ BK356.out), (kb_ BK373.out), GW373.out, GE373.out, NB353_373.out, NB373_353.out, NB354_373.out, NB373_354.out, NB355_373.out, NB373_355.out, NB356_373.out, NB373_356.out, (bw_ HB.out)⟩)
             ·skip
              rintro gb373 w29 ⟨hS_, h0_, h1_, h2_, h3_, h4_, h5_, h6_, h7_, h8_, h9_, h10_, h11_, h12_, h13_, h14_, h15_, h16_, h17_⟩
              have BK373 := Aside0.mk h6_
              have GW373 := Aside0.mk h7_
              have GE373 := Aside0.mk h8_
              have NB353_373 := Aside0.mk h9_
              have NB373_353 := Aside0.mk h10_
              have NB354_373 := Aside0.mk h11_
              have NB373_354 := Aside0.mk h12_
              have NB355_373 := Aside0.mk h13_
              have NB373_355 := Aside0.mk h14_
              have NB356_373 := Aside0.mk h15_
              have NB373_356 := Aside0.mk h16_
              replace HO361 := Aside0.mk h0_
              replace HO363 := Aside0.mk h1_
              replace BK353 := Aside0.mk h2_
              replace BK354 := Aside0.mk h3_
              replace BK355 := Aside0.mk h4_
              replace BK356 := Aside0.mk h5_
              replace HB := Aside0.mk h17_
              clear h0_ h1_ h2_ h3_ h4_ h5_ h6_ h7_ h8_ h9_ h10_ h11_ h12_ h13_ h14_ h15_ h16_ h17_
              have hHeld : w29.cell? ⟨gb353, 0, none⟩ = some (.bool a0_0) ∧ w29.cell? ⟨gb353, 1, none⟩ = some (.slice A0_1 l0_1.length c0_1) ∧ w29.cell? ⟨gb354, 0, none⟩ = some (.bool a1_0) ∧ w29.cell? ⟨gb354, 1, none⟩ = some (.slice A1_1 l1_1.length c1_1) := hS_
              refine norm_ (a' := ?_) ?_ ?_
              rotate_left
              ·simp only [putAll, Act.put, List.setIfInBounds_toArray, List.set_cons_zero, List.set_cons_succ]
               rfl
              refine two_ (i := 6) (j := 11) (Ni := some 31) (Nj := some 10) #[true, true, true, true, true, true, true, true, true, true, false, false, true, false, false] #[true, true, true, true, true, true, false, true, true, true, false, true, true, false, false] rfl rfl rfl rfl (two_of HT_.out (by kernel_rfl)) (by decide) (by decide) (fun K hK => ?_) (fun K hK => ?_)
              ·skip
               refine gs_ Try.func16 #[.bool (a0_0 != a1_0), .slice Ao25 t357.length co25] ?_
               with_reducible refine (whole_Make.calls k (a0_0 != a1_0) _ _ t357 t364 t365 _ ?side1 ?side2 A5.out).mono ?_
               (case side1 => exact kc_ (Kd.R_reads' HO361.out).2.2)
               (case side2 => exact (Kd.R_reads' HO361.out).2.1)
               rintro e w30 ⟨v366, rfl, ho0, hb⟩
               refine ⟨_, rfl, ?_⟩
               have HO367 := Aside0.mk (Kd.R_lower (Kd.R_new' (Kd.R_new' ho0 (Kd.R_lt (kr_ HO361.out))) (Kd.R_lt (kr_ HO363.out))) (below_size (bw_ HB.out)))
               replace HO361 := Aside0.mk (Kd.R_elder' (kr_ HO361.out) (Kd.R_base ho0) hb)
               replace HO363 := Aside0.mk (Kd.R_elder' (kr_ HO363.out) (Kd.R_base ho0) hb)
               replace BK353 := kq_ BK353 hb
               replace BK354 := kq_ BK354 hb
               replace BK355 := kq_ BK355 hb
               replace BK356 := kq_ BK356 hb
               replace BK373 := kq_ BK373 hb
               replace HB := bq_ HB hb
               (try clear hb)
               (try clear hb2)
               (try clear hk)
               (try clear hi)
               (try clear ho0)
               refine hK.out _ _ ⟨(blk_cell BK353.out 0).trans rfl, (blk_cell BK353.out 1).trans rfl, (blk_cell BK354.out 0).trans rfl, (blk_cell BK354.out 1).trans rfl⟩ (fun hHeld => ?_)
               clear hK K
               refine norm_ (a' := ?_) ?_ ?_
               rotate_left
               ·show Act.put _ (some 31) _ = _
                exact pt_
               exact nr_ (hJ6_12 (v366, gb373) _ ⟨hHeld, (kr_ HO361.out), (kr_ HO363.out), (kr_ (Kd.R_mono HO367.out (fun _ hk => by first | exact ⟨hk.1.2, hk.2⟩ | (simp only [ob_map] at hk ⊢; exact ⟨hk.1.2, hk.2⟩)))), (kb_ BK353.out), (kb_ BK354.out), (kb_ BK355.out), (kb_ BK356.out), (kb_ BK373.out), GW373.out, GE373.out, NB353_373.out, NB373_353.out, NB354_373.out, NB373_354.out, NB355_373.out, NB373_355.out, NB356_373.out, NB373_356.out, (bw_ HB.out)⟩)
              ·skip
               refine box_step ?hg (N := 10) ?hd (cs := #[.bool false, .slice none 0 0]) (t := 24) ?hr ?_; (case hd => rfl); (case hg => rfl); (case hr => first | (go_simp; done) | (go_simp; rfl))
               intro gb372 hg w30 hbox hb
               have BK372 := Aside0.mk (hbox)
               have GW372 := ge_ hg HB
               have GE372 := ge_ hg HB
               have NB353_372 := nb_ hg BK353
               have NB372_353 := nc_ hg BK353
               have NB354_372 := nb_ hg BK354
               have NB372_354 := nc_ hg BK354
               have NB355_372 := nb_ hg BK355
               have NB372_355 := nc_ hg BK355
               have NB356_372 := nb_ hg BK356
               have NB372_356 := nc_ hg BK356
               have NB373_372 := nb_ hg BK373
               have NB372_373 := nc_ hg BK373
               replace HO361 := Aside0.mk (Kd.R_below (kr_ HO361.out) hb)
               replace HO363 := Aside0.mk (Kd.R_below (kr_ HO363.out) hb)
               replace BK353 := kq_ BK353 hb
               replace BK354 := kq_ BK354 hb
               replace BK355 := kq_ BK355 hb
               replace BK356 := kq_ BK356 hb
               replace BK373 := kq_ BK373 hb
               replace HB := bq_ HB hb
               clear hb hbox hg
               refine hK.out _ _ ⟨(blk_cell BK353.out 0).trans rfl, (blk_cell BK353.out 1).trans rfl, (blk_cell BK354.out 0).trans rfl, (blk_cell BK354.out 1).trans rfl⟩ (fun hHeld => ?_)
               clear hK K
               refine norm_ (a' := ?_) ?_ ?_
               rotate_left
               ·show Act.put _ (some 10) _ = _
                exact pt_
               exact nr_ (hJ11_12 (gb372, gb373) _ ⟨hHeld, (kr_ HO361.out), (kr_ HO363.out), (kb_ BK353.out), (kb_ BK354.out), (kb_ BK355.out), (kb_ BK356.out), (kb_ BK372.out), (kb_ BK373.out), GW372.out, GE372.out, NB353_372.out, NB372_353.out, NB354_372.out, NB372_354.out, NB355_372.out, NB372_355.out, NB356_372.out, NB372_356.out, NB373_372.out, NB372_373.out, GW373.out, GE373.out, NB353_373.out, NB373_353.out, NB354_373.out, NB373_354.out, NB355_373.out, NB373_355.out, NB356_373.out, NB373_356.out, (bw_ HB.out)⟩)
            ·skip
             rintro gb372 w29 ⟨hS_, h0_, h1_, h2_, h3_, h4_, h5_, h6_, h7_, h8_, h9_, h10_, h11_, h12_, h13_, h14_, h15_, h16_, h17_⟩
             have BK372 := Aside0.mk h6_
             have GW372 := Aside0.mk h7_
             have GE372 := Aside0.mk h8_
             have NB353_372 := Aside0.mk h9_
             have NB372_353 := Aside0.mk h10_
             have NB354_372 := Aside0.mk h11_
             have NB372_354 := Aside0.mk h12_
             have NB355_372 := Aside0.mk h13_
             have NB372_355 := Aside0.mk h14_
             have NB356_372 := Aside0.mk h15_
             have NB372_356 := Aside0.mk h16_
             replace HO361 := Aside0.mk h0_
             replace HO363 := Aside0.mk h1_
             replace BK353 := Aside0.mk h2_
             replace BK354 := Aside0.mk h3_
             replace BK355 := Aside0.mk h4_
             replace BK356 := Aside0.mk h5_
             replace HB := Aside0.mk h17_
             clear h0_ h1_ h2_ h3_ h4_ h5_ h6_ h7_ h8_ h9_ h10_ h11_ h12_ h13_ h14_ h15_ h16_ h17_
             have hHeld : w29.cell? ⟨gb353, 0, none⟩ = some (.bool a0_0) ∧ w29.cell? ⟨gb353, 1, none⟩ = some (.slice A0_1 l0_1.length c0_1) ∧ w29.cell? ⟨gb354, 0, none⟩ = some (.bool a1_0) ∧ w29.cell? ⟨gb354, 1, none⟩ = some (.slice A1_1 l1_1.length c1_1) := hS_
             refine norm_ (a' := ?_) ?_ ?_
             rotate_left
             ·simp only [putAll, Act.put, List.setIfInBounds_toArray, List.set_cons_zero, List.set_cons_succ]
              rfl
             refine two_ (i := 6) (j := 12) (Ni := some 31) (Nj := some 11) #[true, true, true, true, true, true, true, true, true, true, false, true, false, false, false] #[true, true, true, true, true, true, false, true, true, true, false, true, true, false, false] rfl rfl rfl rfl (two_of HT_.out (by kernel_rfl)) (by decide) (by decide) (fun K hK => ?_) (fun K hK => ?_)
             ·skip
              refine gs_ Try.func16 #[.bool (a0_0 != a1_0), .slice Ao25 t357.length co25] ?_
              with_reducible refine (whole_Make.calls k (a0_0 != a1_0) _ _ t357 t364 t365 _ ?side1 ?side2 A5.out).mono ?_
              (case side1 => exact kc_ (Kd.R_reads' HO361.out).2.2)
              (case side2 => exact (Kd.R_reads' HO361.out).2.1)
              rintro e w30 ⟨v366, rfl, ho0, hb⟩
              refine ⟨_, rfl, ?_⟩
              have HO367 := Aside0.mk (Kd.R_lower (Kd.R_new' (Kd.R_new' ho0 (Kd.R_lt (kr_ HO361.out))) (Kd.R_lt (kr_ HO363.out))) (below_size (bw_ HB.out)))
              replace HO361 := Aside0.mk (Kd.R_elder' (kr_ HO361.out) (Kd.R_base ho0) hb)
              replace HO363 := Aside0.mk (Kd.R_elder' (kr_ HO363.out) (Kd.R_base ho0) hb)
              replace BK353 := kq_ BK353 hb
              replace BK354 := kq_ BK354 hb
              replace BK355 := kq_ BK355 hb
              replace BK356 := kq_ BK356 hb
              replace BK372 := kq_ BK372 hb
              replace HB := bq_ HB hb
              (try clear hb)
              (try clear hb2)
              (try clear hk)
              (try clear hi)
              (try clear ho0)
              refine hK.out _ _ ⟨(blk_cell BK353.out 0).trans rfl, (blk_cell BK353.out 1).trans rfl, (blk_cell BK354.out 0).trans rfl, (blk_cell BK354.out 1).trans rfl⟩ (fun hHeld => ?_)
              clear hK K
              refine norm_ (a' := ?_) ?_ ?_
              rotate_left
              ·show Act.put _ (some 31) _ = _
               exact pt_
              exact nr_ (hJ6_11 (v366, gb372) _ ⟨hHeld, (kr_ HO361.out), (kr_ HO363.out), (kr_ (Kd.R_mono HO367.out (fun _ hk => by first | exact ⟨hk.1.2, hk.2⟩ | (simp only [ob_map] at hk ⊢; exact ⟨hk.1.2, hk.2⟩)))), (kb_ BK353.out), (kb_ BK354.out), (kb_ BK355.out), (kb_ BK356.out), (kb_ BK372.out), GW372.out, GE372.out, NB353_372.out, NB372_353.out, NB354_372.out, NB372_354.out, NB355_372.out, NB372_355.out, NB356_372.out, NB372_356.out, (bw_ HB.out)⟩)
             ·skip
              refine box_step ?hg (N := 11) ?hd (cs := #[.bool false, .slice none 0 0]) (t := 24) ?hr ?_; (case hd => rfl); (case hg => rfl); (case hr => first | (go_simp; done) | (go_simp; rfl))
              intro gb373 hg w30 hbox hb
              have BK373 := Aside0.mk (hbox)
              have GW373 := ge_ hg HB
              have GE373 := ge_ hg HB
              have NB353_373 := nb_ hg BK353
              have NB373_353 := nc_ hg BK353
              have NB354_373 := nb_ hg BK354
              have NB373_354 := nc_ hg BK354
              have NB355_373 := nb_ hg BK355
              have NB373_355 := nc_ hg BK355
              have NB356_373 := nb_ hg BK356
              have NB373_356 := nc_ hg BK356
              have NB372_373 := nb_ hg BK372
              have NB373_372 := nc_ hg BK372
              replace HO361 := Aside0.mk (Kd.R_below (kr_ HO361.out) hb)
              replace HO363 := Aside0.mk (Kd.R_below (kr_ HO363.out) hb)
              replace BK353 := kq_ BK353 hb
              replace BK354 := kq_ BK354 hb
              replace BK355 := kq_ BK355 hb
              replace BK356 := kq_ BK356 hb
              replace BK372 := kq_ BK372 hb
              replace HB := bq_ HB hb
              clear hb hbox hg
              refine hK.out _ _ ⟨(blk_cell BK353.out 0).trans rfl, (blk_cell BK353.out 1).trans rfl, (blk_cell BK354.out 0).trans rfl, (blk_cell BK354.out 1).trans rfl⟩ (fun hHeld => ?_)
              clear hK K
              refine norm_ (a' := ?_) ?_ ?_
              rotate_left
              ·show Act.put _ (some 11) _ = _
               exact pt_
              exact nr_ (hJ11_12 (gb372, gb373) _ ⟨hHeld, (kr_ HO361.out), (kr_ HO363.out), (kb_ BK353.out), (kb_ BK354.out), (kb_ BK355.out), (kb_ BK356.out), (kb_ BK372.out), (kb_ BK373.out), GW372.out, GE372.out, NB353_372.out, NB372_353.out, NB354_372.out, NB372_354.out, NB355_372.out, NB372_355.out, NB356_372.out, NB372_356.out, NB373_372.out, NB372_373.out, GW373.out, GE373.out, NB353_373.out, NB373_353.out, NB354_373.out, NB373_354.out, NB355_373.out, NB373_355.out, NB356_373.out, NB373_356.out, (bw_ HB.out)⟩)
           ·skip
            rintro v366 w29 ⟨hS_, h0_, h1_, h2_, h3_, h4_, h5_, h6_, h7_⟩
            have HO367 := Aside0.mk h2_
            replace HO361 := Aside0.mk h0_
            replace HO363 := Aside0.mk h1_
            replace BK353 := Aside0.mk h3_
            replace BK354 := Aside0.mk h4_
            replace BK355 := Aside0.mk h5_
            replace BK356 := Aside0.mk h6_
            replace HB := Aside0.mk h7_
            clear h0_ h1_ h2_ h3_ h4_ h5_ h6_ h7_
            have hHeld : w29.cell? ⟨gb353, 0, none⟩ = some (.bool a0_0) ∧ w29.cell? ⟨gb353, 1, none⟩ = some (.slice A0_1 l0_1.length c0_1) ∧ w29.cell? ⟨gb354, 0, none⟩ = some (.bool a1_0) ∧ w29.cell? ⟨gb354, 1, none⟩ = some (.slice A1_1 l1_1.length c1_1) := hS_
            refine norm_ (a' := ?_) ?_ ?_
            rotate_left
            ·simp only [putAll, Act.put, List.setIfInBounds_toArray, List.set_cons_zero, List.set_cons_succ]
             rfl
            refine three_ (i := 10) (j := 11) (k := 12) (Ni := some 35) (Nj := some 10) (Nk := some 11) #[true, true, true, true, true, true, true, true, true, true, true, false, false, false, false] #[true, true, true, true, true, true, true, true, true, true, false, true, false, false, false] #[true, true, true, true, true, true, true, true, true, true, false, false, true, false, false] rfl rfl rfl rfl rfl rfl (three_of HT_.out (by kernel_rfl)) (by decide) (by decide) (by decide) (fun K hK => ?_) (fun K hK => ?_) (fun K hK => ?_)
            ·skip
             refine gs_ Try.func16 #[.bool a0_0, .slice Ao26 t358.length co26] ?_
             with_reducible refine (whole_Make.calls k a0_0 _ _ t358 t368 t369 _ ?side1 ?side2 A6.out).mono ?_
             (case side1 => exact kc_ (Kd.R_reads' HO363.out).2.2)
             (case side2 => exact (Kd.R_reads' HO363.out).2.1)
             rintro e w30 ⟨v370, rfl, ho0, hb⟩
             refine ⟨_, rfl, ?_⟩
             have HO371 := Aside0.mk (Kd.R_lower (Kd.R_new' (Kd.R_new' (Kd.R_new' ho0 (Kd.R_lt (kr_ HO361.out))) (Kd.R_lt (kr_ HO363.out))) (Kd.R_lt (kr_ HO367.out))) (below_size (bw_ HB.out)))
             replace HO361 := Aside0.mk (Kd.R_elder' (kr_ HO361.out) (Kd.R_base ho0) hb)
             replace HO363 := Aside0.mk (Kd.R_elder' (kr_ HO363.out) (Kd.R_base ho0) hb)
             replace HO367 := Aside0.mk (Kd.R_elder' (kr_ HO367.out) (Kd.R_base ho0) hb)
             replace BK353 := kq_ BK353 hb
             replace BK354 := kq_ BK354 hb
             replace BK355 := kq_ BK355 hb
             replace BK356 := kq_ BK356 hb
             replace HB := bq_ HB hb
             (try clear hb)
             (try clear hb2)
             (try clear hk)
             (try clear hi)
             (try clear ho0)
             refine hK.out _ _ ⟨(blk_cell BK353.out 0).trans rfl, (blk_cell BK353.out 1).trans rfl, (blk_cell BK354.out 0).trans rfl, (blk_cell BK354.out 1).trans rfl⟩ (fun hHeld => ?_)
             clear hK K
             refine norm_ (a' := ?_) ?_ ?_
             rotate_left
             ·show Act.put _ (some 35) _ = _
              exact pt_
             exact nr_ (hJ6_10 (v366, v370) _ ⟨hHeld, (kr_ (Kd.R_mono HO361.out (fun _ hk => by first | exact ⟨hk.1.1, ⟨hk.1.2, hk.2⟩⟩ | simp [hk]))), (kr_ (Kd.R_mono HO363.out (fun _ hk => by first | exact ⟨hk.1.1, ⟨hk.1.2, hk.2⟩⟩ | simp [hk]))), (kr_ (Kd.R_mono HO367.out (fun _ hk => by first | exact ⟨hk.1.1, ⟨hk.1.2, hk.2⟩⟩ | simp [hk]))), (kr_ (Kd.R_mono HO371.out (fun _ hk => by first | exact ⟨hk.1.1.2, ⟨hk.1.2, hk.2⟩⟩ | simp [hk]))), (kb_ BK353.out), (kb_ BK354.out), (kb_ BK355.out), (kb_ BK356.out), (bw_ HB.out)⟩)
            ·skip
             refine box_step ?hg (N := 10) ?hd (cs := #[.bool false, .slice none 0 0]) (t := 24) ?hr ?_; (case hd => rfl); (case hg => rfl); (case hr => first | (go_simp; done) | (go_simp; rfl))
             intro gb372 hg w30 hbox hb
             have BK372 := Aside0.mk (hbox)
             have GW372 := ge_ hg HB
             have GE372 := ge_ hg HB
             have NB353_372 := nb_ hg BK353
             have NB372_353 := nc_ hg BK353
             have NB354_372 := nb_ hg BK354
             have NB372_354 := nc_ hg BK354
             have NB355_372 := nb_ hg BK355
             have NB372_355 := nc_ hg BK355
             have NB356_372 := nb_ hg BK356
             have NB372_356 := nc_ hg BK356
             replace HO361 := Aside0.mk (Kd.R_below (kr_ HO361.out) hb)
             replace HO363 := Aside0.mk (Kd.R_below (kr_ HO363.out) hb)
             replace HO367 := Aside0.mk (Kd.R_below (kr_ HO367.out) hb)
             replace BK353 := kq_ BK353 hb
             replace BK354 := kq_ BK354 hb
             replace BK355 := kq_ BK355 hb
             replace BK356 := kq_ BK356 hb
             replace HB := bq_ HB hb
             clear hb hbox hg
             refine hK.out _ _ ⟨(blk_cell BK353.out 0).trans rfl, (blk_cell BK353.out 1).trans rfl, (blk_cell BK354.out 0).trans rfl, (blk_cell BK354.out 1).trans rfl⟩ (fun hHeld => ?_)
             clear hK K
             refine norm_ (a' := ?_) ?_ ?_
             rotate_left
             ·show Act.put _ (some 10) _ = _
              exact pt_
             exact nr_ (hJ6_11 (v366, gb372) _ ⟨hHeld, (kr_ HO361.out), (kr_ HO363.out), (kr_ HO367.out), (kb_ BK353.out), (kb_ BK354.out), (kb_ BK355.out), (kb_ BK356.out), (kb_ BK372.out), GW372.out, GE372.out, NB353_372.out, NB372_353.out, NB354_372.out, NB372_354.out, NB355_372.out, NB372_355.out, NB356_372.out, NB372_356.out, (bw_ HB.out)⟩)
            ·skip
             refine box_step ?hg (N := 11) ?hd (cs := #[.bool false, .slice none 0 0]) (t := 24) ?hr ?_; (case hd => rfl); (case hg => rfl); (case hr => first | (go_simp; done) | (go_simp; rfl))
             intro gb373 hg w30 hbox hb
             have BK373 := Aside0.mk (hbox)
             have GW373 := ge_ hg HB
             have GE373 := ge_ hg HB
             have NB353_373 := nb_ hg BK353
             have NB373_353 := nc_ hg BK353
             have NB354_373 := nb_ hg BK354
             have NB373_354 := nc_ hg BK354
             have NB355_373 := nb_ hg BK355
             have NB373_355 := nc_ hg BK355
             have NB356_373 := nb_ hg BK356
             have NB373_356 := nc_ hg BK356
             replace HO361 := Aside0.mk (Kd.R_below (kr_ HO361.out) hb)
             replace HO363 := Aside0.mk (Kd.R_below (kr_ HO363.out) hb)
             replace HO367 := Aside0.mk (Kd.R_below (kr_ HO367.out) hb)
             replace BK353 := kq_ BK353 hb
             replace BK354 := kq_ BK354 hb
             replace BK355 := kq_ BK355 hb
             replace BK356 := kq_ BK356 hb
             replace HB := bq_ HB hb
             clear hb hbox hg
             refine hK.out _ _ ⟨(blk_cell BK353.out 0).trans rfl, (blk_cell BK353.out 1).trans rfl, (blk_cell BK354.out 0).trans rfl, (blk_cell BK354.out 1).trans rfl⟩ (fun hHeld => ?_)
             clear hK K
             refine norm_ (a' := ?_) ?_ ?_
             rotate_left
             ·show Act.put _ (some 11) _ = _
              exact pt_
             exact nr_ (hJ6_12 (v366, gb373) _ ⟨hHeld, (kr_ HO361.out), (kr_ HO363.out), (kr_ HO367.out), (kb_ BK353.out), (kb_ BK354.out), (kb_ BK355.out), (kb_ BK356.out), (kb_ BK373.out), GW373.out, GE373.out, NB353_373.out, NB373_353.out, NB354_373.out, NB373_354.out, NB355_373.out, NB373_355.out, NB356_373.out, NB373_356.out, (bw_ HB.out)⟩)
          ·skip
           rintro ⟨gb372, gb373⟩ w30 ⟨hS_, h0_, h1_, h2_, h3_, h4_, h5_, h6_, h7_, h8_, h9_, h10_, h11_, h12_, h13_, h14_, h15_, h16_, h17_, h18_, h19_, h20_, h21_, h22_, h23_, h24_, h25_, h26_, h27_, h28_, h29_, h30_⟩
           have BK372 := Aside0.mk h6_
           have BK373 := Aside0.mk h7_
           have GW372 := Aside0.mk h8_
           have GE372 := Aside0.mk h9_
           have NB353_372 := Aside0.mk h10_
           have NB372_353 := Aside0.mk h11_
           have NB354_372 := Aside0.mk h12_
           have NB372_354 := Aside0.mk h13_
           have NB355_372 := Aside0.mk h14_
           have NB372_355 := Aside0.mk h15_
           have NB356_372 := Aside0.mk h16_
           have NB372_356 := Aside0.mk h17_
           have NB373_372 := Aside0.mk h18_
           have NB372_373 := Aside0.mk h19_
           have GW373 := Aside0.mk h20_
           have GE373 := Aside0.mk h21_
           have NB353_373 := Aside0.mk h22_
           have NB373_353 := Aside0.mk h23_
           have NB354_373 := Aside0.mk h24_
           have NB373_354 := Aside0.mk h25_
           have NB355_373 := Aside0.mk h26_
           have NB373_355 := Aside0.mk h27_
           have NB356_373 := Aside0.mk h28_
           have NB373_356 := Aside0.mk h29_
           replace HO361 := Aside0.mk h0_
           replace HO363 := Aside0.mk h1_
           replace BK353 := Aside0.mk h2_
           replace BK354 := Aside0.mk h3_
           replace BK355 := Aside0.mk h4_
           replace BK356 := Aside0.mk h5_
           replace HB := Aside0.mk h30_
           clear h0_ h1_ h2_ h3_ h4_ h5_ h6_ h7_ h8_ h9_ h10_ h11_ h12_ h13_ h14_ h15_ h16_ h17_ h18_ h19_ h20_ h21_ h22_ h23_ h24_ h25_ h26_ h27_ h28_ h29_ h30_
           have hHeld : w30.cell? ⟨gb353, 0, none⟩ = some (.bool a0_0) ∧ w30.cell? ⟨gb353, 1, none⟩ = some (.slice A0_1 l0_1.length c0_1) ∧ w30.cell? ⟨gb354, 0, none⟩ = some (.bool a1_0) ∧ w30.cell? ⟨gb354, 1, none⟩ = some (.slice A1_1 l1_1.length c1_1) := hS_
           refine norm_ (a' := ?_) ?_ ?_
           rotate_left
           ·simp only [putAll, Act.put, List.setIfInBounds_toArray, List.set_cons_zero, List.set_cons_succ]
            rfl
           refine one_ (i := 6) (N := some 31) #[true, true, true, true, true, true, true, true, true, true, false, true, true, false, false] rfl rfl (one_of HT_.out (by kernel_rfl)) (by decide) (fun K hK => ?_)
           refine gs_ Try.func16 #[.bool (a0_0 != a1_0), .slice Ao25 t357.length co25] ?_
           with_reducible refine (whole_Make.calls k (a0_0 != a1_0) _ _ t357 t364 t365 _ ?side1 ?side2 A5.out).mono ?_
           (case side1 => exact kc_ (Kd.R_reads' HO361.out).2.2)
           (case side2 => exact (Kd.R_reads' HO361.out).2.1)
           rintro e w31 ⟨v366, rfl, ho0, hb⟩
           refine ⟨_, rfl, ?_⟩
           have HO367 := Aside0.mk (Kd.R_lower (Kd.R_new' (Kd.R_new' ho0 (Kd.R_lt (kr_ HO361.out))) (Kd.R_lt (kr_ HO363.out))) (below_size (bw_ HB.out)))
           replace HO361 := Aside0.mk (Kd.R_elder' (kr_ HO361.out) (Kd.R_base ho0) hb)
           replace HO363 := Aside0.mk (Kd.R_elder' (kr_ HO363.out) (Kd.R_base ho0) hb)
           replace BK353 := kq_ BK353 hb
           replace BK354 := kq_ BK354 hb
           replace BK355 := kq_ BK355 hb
           replace BK356 := kq_ BK356 hb
           replace BK372 := kq_ BK372 hb
           replace BK373 := kq_ BK373 hb
           replace HB := bq_ HB hb
           (try clear hb)
           (try clear hb2)
           (try clear hk)
           (try clear hi)
           (try clear ho0)
           refine hK.out _ _ ⟨(blk_cell BK353.out 0).trans rfl, (blk_cell BK353.out 1).trans rfl, (blk_cell BK354.out 0).trans rfl, (blk_cell BK354.out 1).trans rfl⟩ (fun hHeld => ?_)
           clear hK K
           refine norm_ (a' := ?_) ?_ ?_
           rotate_left
           ·show Act.put _ (some 31) _ = _
            exact pt_
           exact nr_ (hJ6_11_12 (v366, gb372, gb373) _ ⟨hHeld, (kr_ HO361.out), (kr_ HO363.out), (kr_ (Kd.R_mono HO367.out (fun _ hk => by first | exact ⟨hk.1.2, hk.2⟩ | (simp only [ob_map] at hk ⊢; exact ⟨hk.1.2, hk.2⟩)))), (kb_ BK353.out), (kb_ BK354.out), (kb_ BK355.out), (kb_ BK356.out), (kb_ BK372.out), (kb_ BK373.out), GW372.out, GE372.out, NB353_372.out, NB372_353.out, NB354_372.out, NB372_354.out, NB355_372.out, NB372_355.out, NB356_372.out, NB372_356.out, NB373_372.out, NB372_373.out, GW373.out, GE373.out, NB353_373.out, NB373_353.out, NB354_373.out, NB373_354.out, NB355_373.out, NB373_355.out, NB356_373.out, NB373_356.out, (bw_ HB.out)⟩)
         ·skip
          rintro ⟨v366, gb373⟩ w30 ⟨hS_, h0_, h1_, h2_, h3_, h4_, h5_, h6_, h7_, h8_, h9_, h10_, h11_, h12_, h13_, h14_, h15_, h16_, h17_, h18_⟩
          have HO367 := Aside0.mk h2_
          have BK373 := Aside0.mk h7_
          have GW373 := Aside0.mk h8_
          have GE373 := Aside0.mk h9_
          have NB353_373 := Aside0.mk h10_
          have NB373_353 := Aside0.mk h11_
          have NB354_373 := Aside0.mk h12_
          have NB373_354 := Aside0.mk h13_
          have NB355_373 := Aside0.mk h14_
          have NB373_355 := Aside0.mk h15_
          have NB356_373 := Aside0.mk h16_
          have NB373_356 := Aside0.mk h17_
          replace HO361 := Aside0.mk h0_
          replace HO363 := Aside0.mk h1_
          replace BK353 := Aside0.mk h3_
          replace BK354 := Aside0.mk h4_
          replace BK355 := Aside0.mk h5_
          replace BK356 := Aside0.mk h6_
          replace HB := Aside0.mk h18_
          clear h0_ h1_ h2_ h3_ h4_ h5_ h6_ h7_ h8_ h9_ h10_ h11_ h12_ h13_ h14_ h15_ h16_ h17_ h18_
          have hHeld : w30.cell? ⟨gb353, 0, none⟩ = some (.bool a0_0) ∧ w30.cell? ⟨gb353, 1, none⟩ = some (.slice A0_1 l0_1.length c0_1) ∧ w30.cell? ⟨gb354, 0, none⟩ = some (.bool a1_0) ∧ w30.cell? ⟨gb354, 1, none⟩ = some (.slice A1_1 l1_1.length c1_1) := hS_
          refine norm_ (a' := ?_) ?_ ?_
          rotate_left
          ·simp only [putAll, Act.put, List.setIfInBounds_toArray, List.set_cons_zero, List.set_cons_succ]
           rfl
          refine two_ (i := 10) (j := 11) (Ni := some 35) (Nj := some 10) #[true, true, true, true, true, true, true, true, true, true, true, false, true, false, false] #[true, true, true, true, true, true, true, true, true, true, false, true, true, false, false] rfl rfl rfl rfl (two_of HT_.out (by kernel_rfl)) (by decide) (by decide) (fun K hK => ?_) (fun K hK => ?_)
          ·skip
           refine gs_ Try.func16 #[.bool a0_0, .slice Ao26 t358.length co26] ?_
           with_reducible refine (whole_Make.calls k a0_0 _ _ t358 t368 t369 _ ?side1 ?side2 A6.out).mono ?_
           (case side1 => exact kc_ (Kd.R_reads' HO363.out).2.2)
           (case side2 => exact (Kd.R_reads' HO363.out).2.1)
           rintro e w31 ⟨v370, rfl, ho0, hb⟩
           refine ⟨_, rfl, ?_⟩
           have HO371 := Aside0.mk (Kd.R_lower (Kd.R_new' (Kd.R_new' (Kd.R_new' ho0 (Kd.R_lt (kr_ HO361.out))) (Kd.R_lt (kr_ HO363.out))) (Kd.R_lt (kr_ HO367.out))) (below_size (bw_ HB.out)))
           replace HO361 := Aside0.mk (Kd.R_elder' (kr_ HO361.out) (Kd.R_base ho0) hb)
           replace HO363 := Aside0.mk (Kd.R_elder' (kr_ HO363.out) (Kd.R_base ho0) hb)
           replace HO367 := Aside0.mk (Kd.R_elder' (kr_ HO367.out) (Kd.R_base ho0) hb)
           replace BK353 := kq_ BK353 hb
           replace BK354 := kq_ BK354 hb
           replace BK355 := kq_ BK355 hb
           replace BK356 := kq_ BK356 hb
           replace BK373 := kq_ BK373 hb
           replace HB := bq_ HB hb
           (try clear hb)
           (try clear hb2)
           (try clear hk)
           (try clear hi)
           (try clear ho0)
           refine hK.out _ _ ⟨(blk_cell BK353.out 0).trans rfl, (blk_cell BK353.out 1).trans rfl, (blk_cell BK354.out 0).trans rfl, (blk_cell BK354.out 1).trans rfl⟩ (fun hHeld => ?_)
           clear hK K
           refine norm_ (a' := ?_) ?_ ?_
           rotate_left
           ·show Act.put _ (some 35) _ = _
            exact pt_
           exact nr_ (hJ6_10_12 (v366, v370, gb373) _ ⟨hHeld, (kr_ (Kd.R_mono HO361.out (fun _ hk => by first | exact ⟨hk.1.1, ⟨hk.1.2, hk.2⟩⟩ | simp [hk]))), (kr_ (Kd.R_mono HO363.out (fun _ hk => by first | exact ⟨hk.1.1, ⟨hk.1.2, hk.2⟩⟩ | simp [hk]))), (kr_ (Kd.R_mono HO367.out (fun _ hk => by first | exact ⟨hk.1.1, ⟨hk.1.2, hk.2⟩⟩ | simp [hk]))), (kr_ (Kd.R_mono HO371.out (fun _ hk => by first | exact ⟨hk.1.1.2, ⟨hk.1.2, hk.2⟩⟩ | simp [hk]))), (kb_ BK353.out), (kb_ BK354.out), (kb_ BK355.out), (kb_ BK356.out), (kb_ BK373.out), GW373.out, GE373.out, NB353_373.out, NB373_353.out, NB354_373.out, NB373_354.out, NB355_373.out, NB373_355.out, NB356_373.out, NB373_356.out, (bw_ HB.out)⟩)
          ·skip
           refine box_step ?hg (N := 10) ?hd (cs := #[.bool false, .slice none 0 0]) (t := 24) ?hr ?_; (case hd => rfl); (case hg => rfl); (case hr => first | (go_simp; done) | (go_simp; rfl))
           intro gb372 hg w31 hbox hb
           have BK372 := Aside0.mk (hbox)
           have GW372 := ge_ hg HB
           have GE372 := ge_ hg HB
           have NB353_372 := nb_ hg BK353
           have NB372_353 := nc_ hg BK353
           have NB354_372 := nb_ hg BK354
           have NB372_354 := nc_ hg BK354
           have NB355_372 := nb_ hg BK355
           have NB372_355 := nc_ hg BK355
           have NB356_372 := nb_ hg BK356
           have NB372_356 := nc_ hg BK356
           have NB373_372 := nb_ hg BK373
           have NB372_373 := nc_ hg BK373
           replace HO361 := Aside0.mk (Kd.R_below (kr_ HO361.out) hb)
           replace HO363 := Aside0.mk (Kd.R_below (kr_ HO363.out) hb)
           replace HO367 := Aside0.mk (Kd.R_below (kr_ HO367.out) hb)
           replace BK353 := kq_ BK353 hb
           replace BK354 := kq_ BK354 hb
           replace BK355 := kq_ BK355 hb
           replace BK356 := kq_ BK356 hb
           replace BK373 := kq_ BK373 hb
           replace HB := bq_ HB hb
           clear hb hbox hg
           refine hK.out _ _ ⟨(blk_cell BK353.out 0).trans rfl, (blk_cell BK353.out 1).trans rfl, (blk_cell BK354.out 0).trans rfl, (blk_cell BK354.out 1).trans rfl⟩ (fun hHeld => ?_)
           clear hK K
           refine norm_ (a' := ?_) ?_ ?_
           rotate_left
           ·show Act.put _ (some 10) _ = _
            exact pt_
           exact nr_ (hJ6_11_12 (v366, gb372, gb373) _ ⟨hHeld, (kr_ HO361.out), (kr_ HO363.out), (kr_ HO367.out), (kb_ BK353.out), (kb_ BK354.out), (kb_ BK355.out), (kb_ BK356.out), (kb_ BK372.out), (kb_ BK373.out), GW372.out, GE372.out, NB353_372.out, NB372_353.out, NB354_372.out, NB372_354.out, NB355_372.out, NB372_355.out, NB356_372.out, NB372_356.out, NB373_372.out, NB372_373.out, GW373.out, GE373.out, NB353_373.out, NB373_353.out, NB354_373.out, NB373_354.out, NB355_373.out, NB373_355.out, NB356_373.out, NB373_356.out, (bw_ HB.out)⟩)
        ·skip
         rintro ⟨v366, gb372⟩ w30 ⟨hS_, h0_, h1_, h2_, h3_, h4_, h5_, h6_, h7_, h8_, h9_, h10_, h11_, h12_, h13_, h14_, h15_, h16_, h17_, h18_⟩
         have HO367 := Aside0.mk h2_
         have BK372 := Aside0.mk h7_
         have GW372 := Aside0.mk h8_
         have GE372 := Aside0.mk h9_
         have NB353_372 := Aside0.mk h10_
         have NB372_353 := Aside0.mk h11_
         have NB354_372 := Aside0.mk h12_
         have NB372_354 := Aside0.mk h13_
         have NB355_372 := Aside0.mk h14_
         have NB372_355 := Aside0.mk h15_
         have NB356_372 := Aside0.mk h16_
         have NB372_356 := Aside0.mk h17_
         replace HO361 := Aside0.mk h0_
         replace HO363 := Aside0.mk h1_
         replace BK353 := Aside0.mk h3_
         replace BK354 := Aside0.mk h4_
         replace BK355 := Aside0.mk h5_
         replace BK356 := Aside0.mk h6_
         replace HB := Aside0.mk h18_
         clear h0_ h1_ h2_ h3_ h4_ h5_ h6_ h7_ h8_ h9_ h10_ h11_ h12_ h13_ h14_ h15_ h16_ h17_ h18_
         have hHeld : w30.cell? ⟨gb353, 0, none⟩ = some (.bool a0_0) ∧ w30.cell? ⟨gb353, 1, none⟩ = some (.slice A0_1 l0_1.length c0_1) ∧ w30.cell? ⟨gb354, 0, none⟩ = some (.bool a1_0) ∧ w30.cell? ⟨gb354, 1, none⟩ = some (.slice A1_1 l1_1.length c1_1) := hS_
         refine norm_ (a' := ?_) ?_ ?_
         rotate_left
         ·simp only [putAll, Act.put, List.setIfInBounds_toArray, List.set_cons_zero, List.set_cons_succ]
          rfl
         refine two_ (i := 10) (j := 12) (Ni := some 35) (Nj := some 11) #[true, true, true, true, true, true, true, true, true, true, true, true, false, false, false] #[true, true, true, true, true, true, true, true, true, true, false, true, true, false, false] rfl rfl rfl rfl (two_of HT_.out (by kernel_rfl)) (by decide) (by decide) (fun K hK => ?_) (fun K hK => ?_)
         ·skip
          refine gs_ Try.func16 #[.bool a0_0, .slice Ao26 t358.length co26] ?_
          with_reducible refine (whole_Make.calls k a0_0 _ _ t358 t368 t369 _ ?side1 ?side2 A6.out).mono ?_
          (case side1 => exact kc_ (Kd.R_reads' HO363.out).2.2)
          (case side2 => exact (Kd.R_reads' HO363.out).2.1)
          rintro e w31 ⟨v370, rfl, ho0, hb⟩
          refine ⟨_, rfl, ?_⟩
          have HO371 := Aside0.mk (Kd.R_lower (Kd.R_new' (Kd.R_new' (Kd.R_new' ho0 (Kd.R_lt (kr_ HO361.out))) (Kd.R_lt (kr_ HO363.out))) (Kd.R_lt (kr_ HO367.out))) (below_size (bw_ HB.out)))
          replace HO361 := Aside0.mk (Kd.R_elder' (kr_ HO361.out) (Kd.R_base ho0) hb)
          replace HO363 := Aside0.mk (Kd.R_elder' (kr_ HO363.out) (Kd.R_base ho0) hb)
          replace HO367 := Aside0.mk (Kd.R_elder' (kr_ HO367.out) (Kd.R_base ho0) hb)
          replace BK353 := kq_ BK353 hb
          replace BK354 := kq_ BK354 hb
          replace BK355 := kq_ BK355 hb
          replace BK356 := kq_ BK356 hb
          replace BK372 := kq_ BK372 hb
          replace HB := bq_ HB hb
          (try clear hb)
          (try clear hb2)
          (try clear hk)
          (try clear hi)
          (try clear ho0)
          refine hK.out _ _ ⟨(blk_cell BK353.out 0).trans rfl, (blk_cell BK353.out 1).trans rfl, (blk_cell BK354.out 0).trans rfl, (blk_cell BK354.out 1).trans rfl⟩ (fun hHeld => ?_)
          clear hK K
          refine norm_ (a' := ?_) ?_ ?_
          rotate_left
          ·show Act.put _ (some 35) _ = _
           exact pt_
          exact nr_ (hJ6_10_11 (v366, v370, gb372) _ ⟨hHeld, (kr_ (Kd.R_mono HO361.out (fun _ hk => by first | exact ⟨hk.1.1, ⟨hk.1.2, hk.2⟩⟩ | simp [hk]))), (kr_ (Kd.R_mono HO363.out (fun _ hk => by first | exact ⟨hk.1.1, ⟨hk.1.2, hk.2⟩⟩ | simp [hk]))), (kr_ (Kd.R_mono HO367.out (fun _ hk => by first | exact ⟨hk.1.1, ⟨hk.1.2, hk.2⟩⟩ | simp [hk]))), (kr_ (Kd.R_mono HO371.out (fun _ hk => by first | exact ⟨hk.1.1.2, ⟨hk.1.2, hk.2⟩⟩ | simp [hk]))), (kb_ BK353.out), (kb_ BK354.out), (kb_ BK355.out), (kb_ BK356.out), (kb_ BK372.out), GW372.out, GE372.out, NB353_372.out, NB372_353.out, NB354_372.out, NB372_354.out, NB355_372.out, NB372_355.out, NB356_372.out, NB372_356.out, (bw_ HB.out)⟩)
         ·skip
          refine box_step ?hg (N := 11) ?hd (cs := #[.bool false, .slice none 0 0]) (t := 24) ?hr ?_; (case hd => rfl); (case hg => rfl); (case hr => first | (go_simp; done) | (go_simp; rfl))
          intro gb373 hg w31 hbox hb
          have BK373 := Aside0.mk (hbox)
          have GW373 := ge_ hg HB
          have GE373 := ge_ hg HB
          have NB353_373 := nb_ hg BK353
          have NB373_353 := nc_ hg BK353
          have NB354_373 := nb_ hg BK354
          have NB373_354 := nc_ hg BK354
          have NB355_373 := nb_ hg BK355
          have NB373_355 := nc_ hg BK355
          have NB356_373 := nb_ hg BK356
          have NB373_356 := nc_ hg BK356
          have NB372_373 := nb_ hg BK372
          have NB373_372 := nc_ hg BK372
          replace HO361 := Aside0.mk (Kd.R_below (kr_ HO361.out) hb)
          replace HO363 := Aside0.mk (Kd.R_below (kr_ HO363.out) hb)
          replace HO367 := Aside0.mk (Kd.R_below (kr_ HO367.out) hb)
          replace BK353 := kq_ BK353 hb
          replace BK354 := kq_ BK354 hb
          replace BK355 := kq_ BK355 hb
          replace BK356 := kq_ BK356 hb
          replace BK372 := kq_ BK372 hb
          replace HB := bq_ HB hb
          clear hb hbox hg
          refine hK.out _ _ ⟨(blk_cell BK353.out 0).trans rfl, (blk_cell BK353.out 1).trans rfl, (blk_cell BK354.out 0).trans rfl, (blk_cell BK354.out 1).trans rfl⟩ (fun hHeld => ?_)
          clear hK K
          refine norm_ (a' := ?_) ?_ ?_
          rotate_left
          ·show Act.put _ (some 11) _ = _
           exact pt_
          exact nr_ (hJ6_11_12 (v366, gb372, gb373) _ ⟨hHeld, (kr_ HO361.out), (kr_ HO363.out), (kr_ HO367.out), (kb_ BK353.out), (kb_ BK354.out), (kb_ BK355.out), (kb_ BK356.out), (kb_ BK372.out), (kb_ BK373.out), GW372.out, GE372.out, NB353_372.out, NB372_353.out, NB354_372.out, NB372_354.out, NB355_372.out, NB372_355.out, NB356_372.out, NB372_356.out, NB373_372.out, NB372_373.out, GW373.out, GE373.out, NB353_373.out, NB373_353.out, NB354_373.out, NB373_354.out, NB355_373.out, NB373_355.out, NB356_373.out, NB373_356.out, (bw_ HB.out)⟩)
       ·skip
        rintro ⟨v366, v370⟩ w30 ⟨hS_, h0_, h1_, h2_, h3_, h4_, h5_, h6_, h7_, h8_⟩
        have HO367 := Aside0.mk h2_
        have HO371 := Aside0.mk h3_
        replace HO361 := Aside0.mk h0_
        replace HO363 := Aside0.mk h1_
        replace BK353 := Aside0.mk h4_
        replace BK354 := Aside0.mk h5_
        replace BK355 := Aside0.mk h6_
        replace BK356 := Aside0.mk h7_
        replace HB := Aside0.mk h8_
        clear h0_ h1_ h2_ h3_ h4_ h5_ h6_ h7_ h8_
        have hHeld : w30.cell? ⟨gb353, 0, none⟩ = some (.bool a0_0) ∧ w30.cell? ⟨gb353, 1, none⟩ = some (.slice A0_1 l0_1.length c0_1) ∧ w30.cell? ⟨gb354, 0, none⟩ = some (.bool a1_0) ∧ w30.cell? ⟨gb354, 1, none⟩ = some (.slice A1_1 l1_1.length c1_1) := hS_
        refine norm_ (a' := ?_) ?_ ?_
        rotate_left
        ·simp only [putAll, Act.put, List.setIfInBounds_toArray, List.set_cons_zero, List.set_cons_succ]
         rfl
        refine two_ (i := 11) (j := 12) (Ni := some 10) (Nj := some 11) #[true, true, true, true, true, true, true, true, true, true, true, true, false, false, false] #[true, true, true, true, true, true, true, true, true, true, true, false, true, false, false] rfl rfl rfl rfl (two_of HT_.out (by kernel_rfl)) (by decide) (by decide) (fun K hK => ?_) (fun K hK => ?_)
        ·skip
         refine box_step ?hg (N := 10) ?hd (cs := #[.bool false, .slice none 0 0]) (t := 24) ?hr ?_; (case hd => rfl); (case hg => rfl); (case hr => first | (go_simp; done) | (go_simp; rfl))
         intro gb372 hg w31 hbox hb
         have BK372 := Aside0.mk (hbox)
         have GW372 := ge_ hg HB
         have GE372 := ge_ hg HB
         have NB353_372 := nb_ hg BK353
         have NB372_353 := nc_ hg BK353
         have NB354_372 := nb_ hg BK354
         have NB372_354 := nc_ hg BK354
         have NB355_372 := nb_ hg BK355
         have NB372_355 := nc_ hg BK355
         have NB356_372 := nb_ hg BK356
         have NB372_356 := nc_ hg BK356
         replace HO361 := Aside0.mk (Kd.R_below (kr_ HO361.out) hb)
         replace HO363 := Aside0.mk (Kd.R_below (kr_ HO363.out) hb)
         replace HO367 := Aside0.mk (Kd.R_below (kr_ HO367.out) hb)
         replace HO371 := Aside0.mk (Kd.R_below (kr_ HO371.out) hb)
         replace BK353 := kq_ BK353 hb
         replace BK354 := kq_ BK354 hb
         replace BK355 := kq_ BK355 hb
         replace BK356 := kq_ BK356 hb
         replace HB := bq_ HB hb
         clear hb hbox hg
         refine hK.out _ _ ⟨(blk_cell BK353.out 0).trans rfl, (blk_cell BK353.out 1).trans rfl, (blk_cell BK354.out 0).trans rfl, (blk_cell BK354.out 1).trans rfl⟩ (fun hHeld => ?_)
         clear hK K
         refine norm_ (a' := ?_) ?_ ?_
         rotate_left
         ·show Act.put _ (some 10) _ = _
          exact pt_
         exact nr_ (hJ6_10_11 (v366, v370, gb372) _ ⟨hHeld, (kr_ HO361.out), (kr_ HO363.out), (kr_ HO367.out), (kr_ HO371.out), (kb_ BK353.out), (kb_ BK354.out), (kb_ BK355.out), (kb_ BK356.out), (kb_ BK372.out), GW372.out, GE372.out, NB353_372.out, NB372_353.out, NB354_372.out, NB372_354.out, NB355_372.out, NB372_355.out, NB356_372.out, NB372_356.out, (bw_ HB.out)⟩)
        ·skip
         refine box_step ?hg (N := 11) ?hd (cs := #[.bool false, .slice none 0 0]) (t := 24) ?hr ?_; (case hd => rfl); (case hg => rfl); (case hr => first | (go_simp; done) | (go_simp; rfl))
         intro gb373 hg w31 hbox hb
         have BK373 := Aside0.mk (hbox)
         have GW373 := ge_ hg HB
         have GE373 := ge_ hg HB
         have NB353_373 := nb_ hg BK353
         have NB373_353 := nc_ hg BK353
         have NB354_373 := nb_ hg BK354
         have NB373_354 := nc_ hg BK354
         have NB355_373 := nb_ hg BK355
         have NB373_355 := nc_ hg BK355
         have NB356_373 := nb_ hg BK356
         have NB373_356 := nc_ hg BK356
         replace HO361 := Aside0.mk (Kd.R_below (kr_ HO361.out) hb)
         replace HO363 := Aside0.mk (Kd.R_below (kr_ HO363.out) hb)
         replace HO367 := Aside0.mk (Kd.R_below (kr_ HO367.out) hb)
         replace HO371 := Aside0.mk (Kd.R_below (kr_ HO371.out) hb)
         replace BK353 := kq_ BK353 hb
         replace BK354 := kq_ BK354 hb
         replace BK355 := kq_ BK355 hb
         replace BK356 := kq_ BK356 hb
         replace HB := bq_ HB hb
         clear hb hbox hg
         refine hK.out _ _ ⟨(blk_cell BK353.out 0).trans rfl, (blk_cell BK353.out 1).trans rfl, (blk_cell BK354.out 0).trans rfl, (blk_cell BK354.out 1).trans rfl⟩ (fun hHeld => ?_)
         clear hK K
         refine norm_ (a' := ?_) ?_ ?_
         rotate_left
         ·show Act.put _ (some 11) _ = _
          exact pt_
         exact nr_ (hJ6_10_12 (v366, v370, gb373) _ ⟨hHeld, (kr_ HO361.out), (kr_ HO363.out), (kr_ HO367.out), (kr_ HO371.out), (kb_ BK353.out), (kb_ BK354.out), (kb_ BK355.out), (kb_ BK356.out), (kb_ BK373.out), GW373.out, GE373.out, NB353_373.out, NB373_353.out, NB354_373.out, NB373_354.out, NB355_373.out, NB373_355.out, NB356_373.out, NB373_356.out, (bw_ HB.out)⟩)
      ·skip
       rintro ⟨v366, gb372, gb373⟩ w31 ⟨hS_, h0_, h1_, h2_, h3_, h4_, h5_, h6_, h7_, h8_, h9_, h10_, h11_, h12_, h13_, h14_, h15_, h16_, h17_, h18_, h19_, h20_, h21_, h22_, h23_, h24_, h25_, h26_, h27_, h28_, h29_, h30_, h31_⟩
       have HO367 := Aside0.mk h2_
       have BK372 := Aside0.mk h7_
       have BK373 := Aside0.mk h8_
       have GW372 := Aside0.mk h9_
       have GE372 := Aside0.mk h10_
       have NB353_372 := Aside0.mk h11_
       have NB372_353 := Aside0.mk h12_
       have NB354_372 := Aside0.mk h13_
       have NB372_354 := Aside0.mk h14_
       have NB355_372 := Aside0.mk h15_
       have NB372_355 := Aside0.mk h16_
       have NB356_372 := Aside0.mk h17_
       have NB372_356 := Aside0.mk h18_
       have NB373_372 := Aside0.mk h19_
       have NB372_373 := Aside0.mk h20_
       have GW373 := Aside0.mk h21_
       have GE373 := Aside0.mk h22_
       have NB353_373 := Aside0.mk h23_
       have NB373_353 := Aside0.mk h24_
       have NB354_373 := Aside0.mk h25_
       have NB373_354 := Aside0.mk h26_
       have NB355_373 := Aside0.mk h27_
       have NB373_355 := Aside0.mk h28_
       have NB356_373 := Aside0.mk h29_
       have NB373_356 := Aside0.mk h30_
       replace HO361 := Aside0.mk h0_
       replace HO363 := Aside0.mk h1_
       replace BK353 := Aside0.mk h3_
       replace BK354 := Aside0.mk h4_
       replace BK355 := Aside0.mk h5_
       replace BK356 := Aside0.mk h6_
       replace HB := Aside0.mk h31_
       clear h0_ h1_ h2_ h3_ h4_ h5_ h6_ h7_ h8_ h9_ h10_ h11_ h12_ h13_ h14_ h15_ h16_ h17_ h18_ h19_ h20_ h21_ h22_ h23_ h24_ h25_ h26_ h27_ h28_ h29_ h30_ h31_
       have hHeld : w31.cell? ⟨gb353, 0, none⟩ = some (.bool a0_0) ∧ w31.cell? ⟨gb353, 1, none⟩ = some (.slice A0_1 l0_1.length c0_1) ∧ w31.cell? ⟨gb354, 0, none⟩ = some (.bool a1_0) ∧ w31.cell? ⟨gb354, 1, none⟩ = some (.slice A1_1 l1_1.length c1_1) := hS_
       refine norm_ (a' := ?_) ?_ ?_
       rotate_left
       ·simp only [putAll, Act.put, List.setIfInBounds_toArray, List.set_cons_zero, List.set_cons_succ]
        rfl
       refine one_ (i := 10) (N := some 35) #[true, true, true, true, true, true, true, true, true, true, true, true, true, false, false] rfl rfl (one_of HT_.out (by kernel_rfl)) (by decide) (fun K hK => ?_)
       refine gs_ Try.func16 #[.bool a0_0, .slice Ao26 t358.length co26] ?_
       with_reducible refine (whole_Make.calls k a0_0 _ _ t358 t368 t369 _ ?side1 ?side2 A6.out).mono ?_
       (case side1 => exact kc_ (Kd.R_reads' HO363.out).2.2)
       (case side2 => exact (Kd.R_reads' HO363.out).2.1)
       rintro e w32 ⟨v370, rfl, ho0, hb⟩
       refine ⟨_, rfl, ?_⟩
       have HO371 := Aside0.mk (Kd.R_lower (Kd.R_new' (Kd.R_new' (Kd.R_new' ho0 (Kd.R_lt (kr_ HO361.out))) (Kd.R_lt (kr_ HO363.out))) (Kd.R_lt (kr_ HO367.out))) (below_size (bw_ HB.out)))
       replace HO361 := Aside0.mk (Kd.R_elder' (kr_ HO361.out) (Kd.R_base ho0) hb)
       replace HO363 := Aside0.mk (Kd.R_elder' (kr_ HO363.out) (Kd.R_base ho0) hb)
       replace HO367 := Aside0.mk (Kd.R_elder' (kr_ HO367.out) (Kd.R_base ho0) hb)
       replace BK353 := kq_ BK353 hb
       replace BK354 := kq_ BK354 hb
       replace BK355 := kq_ BK355 hb
       replace BK356 := kq_ BK356 hb
       replace BK372 := kq_ BK372 hb
       replace BK373 := kq_ BK373 hb
       replace HB := bq_ HB hb
       (try clear hb)
       (try clear hb2)
       (try clear hk)
       (try clear hi)
       (try clear ho0)
       refine hK.out _ _ ⟨(blk_cell BK353.out 0).trans rfl, (blk_cell BK353.out 1).trans rfl, (blk_cell BK354.out 0).trans rfl, (blk_cell BK354.out 1).trans rfl⟩ (fun hHeld => ?_)
       clear hK K
       refine norm_ (a' := ?_) ?_ ?_
       rotate_left
       ·show Act.put _ (some 35) _ = _
        exact pt_
       exact nr_ (hJ6_10_11_12 (v366, v370, gb372, gb373) _ ⟨hHeld, (kr_ (Kd.R_mono HO361.out (fun _ hk => by first | exact ⟨hk.1.1, ⟨hk.1.2, hk.2⟩⟩ | simp [hk]))), (kr_ (Kd.R_mono HO363.out (fun _ hk => by first | exact ⟨hk.1.1, ⟨hk.1.2, hk.2⟩⟩ | simp [hk]))), (kr_ (Kd.R_mono HO367.out (fun _ hk => by first | exact ⟨hk.1.1, ⟨hk.1.2, hk.2⟩⟩ | simp [hk]))), (kr_ (Kd.R_mono HO371.out (fun _ hk => by first | exact ⟨hk.1.1.2, ⟨hk.1.2, hk.2⟩⟩ | simp [hk]))), (kb_ BK353.out), (kb_ BK354.out), (kb_ BK355.out), (kb_ BK356.out), (kb_ BK372.out), (kb_ BK373.out), GW372.out, GE372.out, NB353_372.out, NB372_353.out, NB354_372.out, NB372_354.out, NB355_372.out, NB372_355.out, NB356_372.out, NB372_356.out, NB373_372.out, NB372_373.out, GW373.out, GE373.out, NB353_373.out, NB373_353.out, NB354_373.out, NB373_354.out, NB355_373.out, NB373_355.out, NB356_373.out, NB373_356.out, (bw_ HB.out)⟩)
     ·skip
      rintro ⟨v366, v370, gb373⟩ w31 ⟨hS_, h0_, h1_, h2_, h3_, h4_, h5_, h6_, h7_, h8_, h9_, h10_, h11_, h12_, h13_, h14_, h15_, h16_, h17_, h18_, h19_⟩
      have HO367 := Aside0.mk h2_
      have HO371 := Aside0.mk h3_
      have BK373 := Aside0.mk h8_
      have GW373 := Aside0.mk h9_
      have GE373 := Aside0.mk h10_
      have NB353_373 := Aside0.mk h11_
      have NB373_353 := Aside0.mk h12_
      have NB354_373 := Aside0.mk h13_
      have NB373_354 := Aside0.mk h14_
      have NB355_373 := Aside0.mk h15_
      have NB373_355 := Aside0.mk h16_
      have NB356_373 := Aside0.mk h17_
      have NB373_356 := Aside0.mk h18_
      replace HO361 := Aside0.mk h0_
      replace HO363 := Aside0.mk h1_
      replace BK353 := Aside0.mk h4_
      replace BK354 := Aside0.mk h5_
      replace BK355 := Aside0.mk h6_
      replace BK356 := Aside0.mk h7_
      replace HB := Aside0.mk h19_
      clear h0_ h1_ h2_ h3_ h4_ h5_ h6_ h7_ h8_ h9_ h10_ h11_ h12_ h13_ h14_ h15_ h16_ h17_ h18_ h19_
      have hHeld : w31.cell? ⟨gb353, 0, none⟩ = some (.bool a0_0) ∧ w31.cell? ⟨gb353, 1, none⟩ = some (.slice A0_1 l0_1.length c0_1) ∧ w31.cell? ⟨gb354, 0, none⟩ = some (.bool a1_0) ∧ w31.cell? ⟨gb354, 1, none⟩ = some (.slice A1_1 l1_1.length c1_1) := hS_
      refine norm_ (a' := ?_) ?_ ?_
      rotate_left
      ·simp only [putAll, Act.put, List.setIfInBounds_toArray, List.set_cons_zero, List.set_cons_succ]
       rfl
      refine one_ (i := 11) (N := some 10) #[true, true, true, true, true, true, true, true, true, true, true, true, true, false, false] rfl rfl (one_of HT_.out (by kernel_rfl)) (by decide) (fun K hK => ?_)
      refine box_step ?hg (N := 10) ?hd (cs := #[.bool false, .slice none 0 0]) (t := 24) ?hr ?_; (case hd => rfl); (case hg => rfl); (case hr => first | (go_simp; done) | (go_simp; rfl))
      intro gb372 hg w32 hbox hb
      have BK372 := Aside0.mk (hbox)
      have GW372 := ge_ hg HB
      have GE372 := ge_ hg HB
      have NB353_372 := nb_ hg BK353
      have NB372_353 := nc_ hg BK353
      have NB354_372 := nb_ hg BK354
      have NB372_354 := nc_ hg BK354
      have NB355_372 := nb_ hg BK355
      have NB372_355 := nc_ hg BK355
      have NB356_372 := nb_ hg BK356
      have NB372_356 := nc_ hg BK356
      have NB373_372 := nb_ hg BK373
      have NB372_373 := nc_ hg BK373
      replace HO361 := Aside0.mk (Kd.R_below (kr_ HO361.out) hb)
      replace HO363 := Aside0.mk (Kd.R_below (kr_ HO363.out) hb)
      replace HO367 := Aside0.mk (Kd.R_below (kr_ HO367.out) hb)
      replace HO371 := Aside0.mk (Kd.R_below (kr_ HO371.out) hb)
      replace BK353 := kq_ BK353 hb
      replace BK354 := kq_ BK354 hb
      replace BK355 := kq_ BK355 hb
      replace BK356 := kq_ BK356 hb
      replace BK373 := kq_ BK373 hb
      replace HB := bq_ HB hb
      clear hb hbox hg
      refine hK.out _ _ ⟨(blk_cell BK353.out 0).trans rfl, (blk_cell BK353.out 1).trans rfl, (blk_cell BK354.out 0).trans rfl, (blk_cell BK354.out 1).trans rfl⟩ (fun hHeld => ?_)
      clear hK K
      refine norm_ (a' := ?_) ?_ ?_
      rotate_left
      ·show Act.put _ (some 10) _ = _
       exact pt_
      exact nr_ (hJ6_10_11_12 (v366, v370, gb372, gb373) _ ⟨hHeld, (kr_ HO361.out), (kr_ HO363.out), (kr_ HO367.out), (kr_ HO371.out), (kb_ BK353.out), (kb_ BK354.out), (kb_ BK355.out), (kb_ BK356.out), (kb_ BK372.out), (kb_ BK373.out), GW372.out, GE372.out, NB353_372.out, NB372_353.out, NB354_372.out, NB372_354.out, NB355_372.out, NB372_355.out, NB356_372.out, NB372_356.out, NB373_372.out, NB372_373.out, GW373.out, GE373.out, NB353_373.out, NB373_353.out, NB354_373.out, NB373_354.out, NB355_373.out, NB373_355.out, NB356_373.out, NB373_356.out, (bw_ HB.out)⟩)
    ·skip
     rintro ⟨v366, v370, gb372⟩ w31 ⟨hS_, h0_, h1_, h2_, h3_, h4_, h5_, h6_, h7_, h8_, h9_, h10_, h11_, h12_, h13_, h14_, h15_, h16_, h17_, h18_, h19_⟩
     have HO367 := Aside0.mk h2_
     have HO371 := Aside0.mk h3_
     have BK372 := Aside0.mk h8_
     have GW372 := Aside0.mk h9_
     have GE372 := Aside0.mk h10_
     have NB353_372 := Aside0.mk h11_
     have NB372_353 := Aside0.mk h12_
     have NB354_372 := Aside0.mk h13_
     have NB372_354 := Aside0.mk h14_
     have NB355_372 := Aside0.mk h15_
     have NB372_355 := Aside0.mk h16_
     have NB356_372 := Aside0.mk h17_
     have NB372_356 := Aside0.mk h18_
     replace HO361 := Aside0.mk h0_
     replace HO363 := Aside0.mk h1_
     replace BK353 := Aside0.mk h4_
     replace BK354 := Aside0.mk h5_
     replace BK355 := Aside0.mk h6_
     replace BK356 := Aside0.mk h7_
     replace HB := Aside0.mk h19_
     clear h0_ h1_ h2_ h3_ h4_ h5_ h6_ h7_ h8_ h9_ h10_ h11_ h12_ h13_ h14_ h15_ h16_ h17_ h18_ h19_
     have hHeld : w31.cell? ⟨gb353, 0, none⟩ = some (.bool a0_0) ∧ w31.cell? ⟨gb353, 1, none⟩ = some (.slice A0_1 l0_1.length c0_1) ∧ w31.cell? ⟨gb354, 0, none⟩ = some (.bool a1_0) ∧ w31.cell? ⟨gb354, 1, none⟩ = some (.slice A1_1 l1_1.length c1_1) := hS_
     refine norm_ (a' := ?_) ?_ ?_
     rotate_left
     ·simp only [putAll, Act.put, List.setIfInBounds_toArray, List.set_cons_zero, List.set_cons_succ]
      rfl
     refine one_ (i := 12) (N := some 11) #[true, true, true, true, true, true, true, true, true, true, true, true, true, false, false] rfl rfl (one_of HT_.out (by kernel_rfl)) (by decide) (fun K hK => ?_)
     refine box_step ?hg (N := 11) ?hd (cs := #[.bool false, .slice none 0 0]) (t := 24) ?hr ?_; (case hd => rfl); (case hg => rfl); (case hr => first | (go_simp; done) | (go_simp; rfl))
     intro gb373 hg w32 hbox hb
     have BK373 := Aside0.mk (hbox)
     have GW373 := ge_ hg HB
     have GE373 := ge_ hg HB
     have NB353_373 := nb_ hg BK353
     have NB373_353 := nc_ hg BK353
     have NB354_373 := nb_ hg BK354
     have NB373_354 := nc_ hg BK354
     have NB355_373 := nb_ hg BK355
     have NB373_355 := nc_ hg BK355
     have NB356_373 := nb_ hg BK356
     have NB373_356 := nc_ hg BK356
     have NB372_373 := nb_ hg BK372
     have NB373_372 := nc_ hg BK372
     replace HO361 := Aside0.mk (Kd.R_below (kr_ HO361.out) hb)
     replace HO363 := Aside0.mk (Kd.R_below (kr_ HO363.out) hb)
     replace HO367 := Aside0.mk (Kd.R_below (kr_ HO367.out) hb)
     replace HO371 := Aside0.mk (Kd.R_below (kr_ HO371.out) hb)
     replace BK353 := kq_ BK353 hb
     replace BK354 := kq_ BK354 hb
     replace BK355 := kq_ BK355 hb
     replace BK356 := kq_ BK356 hb
     replace BK372 := kq_ BK372 hb
     replace HB := bq_ HB hb
     clear hb hbox hg
     refine hK.out _ _ ⟨(blk_cell BK353.out 0).trans rfl, (blk_cell BK353.out 1).trans rfl, (blk_cell BK354.out 0).trans rfl, (blk_cell BK354.out 1).trans rfl⟩ (fun hHeld => ?_)
     clear hK K
     refine norm_ (a' := ?_) ?_ ?_
     rotate_left
     ·show Act.put _ (some 11) _ = _
      exact pt_
     exact nr_ (hJ6_10_11_12 (v366, v370, gb372, gb373) _ ⟨hHeld, (kr_ HO361.out), (kr_ HO363.out), (kr_ HO367.out), (kr_ HO371.out), (kb_ BK353.out), (kb_ BK354.out), (kb_ BK355.out), (kb_ BK356.out), (kb_ BK372.out), (kb_ BK373.out), GW372.out, GE372.out, NB353_372.out, NB372_353.out, NB354_372.out, NB372_354.out, NB355_372.out, NB372_355.out, NB356_372.out, NB372_356.out, NB373_372.out, NB372_373.out, GW373.out, GE373.out, NB353_373.out, NB373_353.out, NB354_373.out, NB373_354.out, NB355_373.out, NB373_355.out, NB356_373.out, NB373_356.out, (bw_ HB.out)⟩)
   rintro ⟨v366, v370, gb372, gb373⟩ w32 ⟨hS_, h0_, h1_, h2_, h3_, h4_, h5_, h6_, h7_, h8_, h9_, h10_, h11_, h12_, h13_, h14_, h15_, h16_, h17_, h18_, h19_, h20_, h21_, h22_, h23_, h24_, h25_, h26_, h27_, h28_, h29_, h30_, h31_, h32_⟩
   have HO367 := Aside0.mk h2_
   have HO371 := Aside0.mk h3_
   have BK372 := Aside0.mk h8_
   have BK373 := Aside0.mk h9_
   have GW372 := Aside0.mk h10_
   have GE372 := Aside0.mk h11_
   have NB353_372 := Aside0.mk h12_
   have NB372_353 := Aside0.mk h13_
   have NB354_372 := Aside0.mk h14_
   have NB372_354 := Aside0.mk h15_
   have NB355_372 := Aside0.mk h16_
   have NB372_355 := Aside0.mk h17_
   have NB356_372 := Aside0.mk h18_
   have NB372_356 := Aside0.mk h19_
   have NB373_372 := Aside0.mk h20_
   have NB372_373 := Aside0.mk h21_
   have GW373 := Aside0.mk h22_
   have GE373 := Aside0.mk h23_
   have NB353_373 := Aside0.mk h24_
   have NB373_353 := Aside0.mk h25_
   have NB354_373 := Aside0.mk h26_
   have NB373_354 := Aside0.mk h27_
   have NB355_373 := Aside0.mk h28_
   have NB373_355 := Aside0.mk h29_
   have NB356_373 := Aside0.mk h30_
   have NB373_356 := Aside0.mk h31_
   replace HO361 := Aside0.mk h0_
   replace HO363 := Aside0.mk h1_
   replace BK353 := Aside0.mk h4_
   replace BK354 := Aside0.mk h5_
   replace BK355 := Aside0.mk h6_
   replace BK356 := Aside0.mk h7_
   replace HB := Aside0.mk h32_
   clear h0_ h1_ h2_ h3_ h4_ h5_ h6_ h7_ h8_ h9_ h10_ h11_ h12_ h13_ h14_ h15_ h16_ h17_ h18_ h19_ h20_ h21_ h22_ h23_ h24_ h25_ h26_ h27_ h28_ h29_ h30_ h31_ h32_
   have hHeld : w32.cell? ⟨gb353, 0, none⟩ = some (.bool a0_0) ∧ w32.cell? ⟨gb353, 1, none⟩ = some (.slice A0_1 l0_1.length c0_1) ∧ w32.cell? ⟨gb354, 0, none⟩ = some (.bool a1_0) ∧ w32.cell? ⟨gb354, 1, none⟩ = some (.slice A1_1 l1_1.length c1_1) := hS_
   obtain ⟨Ao34, co34, eo34⟩ := Kd.R_slice HO367.out
   (first | subst eo34 | (injection eo34 with f1_ f2_ f3_; have f4_ := f1_.symm; have f5_ := f3_.symm; clear f1_ f2_ f3_; subst f4_; subst f5_))
   obtain ⟨Ao37, co37, eo37⟩ := Kd.R_slice HO371.out
   (first | subst eo37 | (injection eo37 with f1_ f2_ f3_; have f4_ := f1_.symm; have f5_ := f3_.symm; clear f1_ f2_ f3_; subst f4_; subst f5_))
   refine norm_ (a' := ?_) ?_ ?_
   rotate_left
   ·simp only [putAll, Act.put, List.setIfInBounds_toArray, List.set_cons_zero, List.set_cons_succ]
    rfl
   refine one_ (i := 13) (N := none) #[true, true, true, true, true, true, true, true, true, true, true, true, true, true, false] rfl rfl (one_of HT_.out (by kernel_rfl)) (by decide) (fun K hK => ?_)
   have hs33 : w32.cell? ⟨gb372, 0, none⟩ = some (.bool false) := (blk_cell BK372.out 0).trans rfl
   have hfs33 := fz_ BK372 0
   have hns33_0 := NB353_372.out
   have hns33_1 := NB354_372.out
   have hns33_2 := NB355_372.out
   have hns33_3 := NB356_372.out
   have hns33_5 := NB373_372.out
   have hms33_0 := NB372_353.out
   have hms33_1 := NB372_354.out
   have hms33_2 := NB372_355.out
   have hms33_3 := NB372_356.out
   have hms33_5 := NB372_373.out
   have hs35 : w32.cell? ⟨gb372, 1, none⟩ = some (.slice none 0 0) := (blk_cell BK372.out 1).trans rfl
   have hfs35 := fz_ BK372 1
   have hns35_0 := NB353_372.out
   have hns35_1 := NB354_372.out
   have hns35_2 := NB355_372.out
   have hns35_3 := NB356_372.out
   have hns35_5 := NB373_372.out
   have hms35_0 := NB372_353.out
   have hms35_1 := NB372_354.out
   have hms35_2 := NB372_355.out
   have hms35_3 := NB372_356.out
   have hms35_5 := NB372_373.out
   refine skip_ (w1 := ?_) (by rfl) rfl ?_ ?_
   rotate_left
   ·go_simp
    rfl
   refine hK.out _ _ ⟨((cell_far (p := ⟨gb372, _, none⟩) NB353_372.out _).trans (((cell_far (p := ⟨gb372, _, none⟩) NB353_372.out _).trans (hHeld.1)))), ((cell_far (p := ⟨gb372, _, none⟩) NB353_372.out _).trans (((cell_far (p := ⟨gb372, _, none⟩) NB353_372.out _).trans (hHeld.2.1)))), ((cell_far (p := ⟨gb372, _, none⟩) NB354_372.out _).trans (((cell_far (p := ⟨gb372, _, none⟩) NB354_372.out _).trans (hHeld.2.2.1)))), ((cell_far (p := ⟨gb372, _, none⟩) NB354_372.out _).trans (((cell_far (p := ⟨gb372, _, none⟩) NB354_372.out _).trans (hHeld.2.2.2))))⟩ (fun hHeld => ?_)
   clear hK K
   refine one_ (i := 14) (N := none) #[true, true, true, true, true, true, true, true, true, true, true, true, true, true, true] rfl rfl (one_of HT_.out (by kernel_rfl)) (by decide) (fun K hK => ?_)
   have hs36 : w32.cell? ⟨gb373, 0, none⟩ = some (.bool false) := (blk_cell BK373.out 0).trans rfl
   have hfs36 := fz_ BK373 0
   have hns36_0 := NB353_373.out
   have hns36_1 := NB354_373.out
   have hns36_2 := NB355_373.out
   have hns36_3 := NB356_373.out
   have hns36_4 := NB372_373.out
   have hms36_0 := NB373_353.out
   have hms36_1 := NB373_354.out
   have hms36_2 := NB373_355.out
   have hms36_3 := NB373_356.out
   have hms36_4 := NB373_372.out
   have hs38 : w32.cell? ⟨gb373, 1, none⟩ = some (.slice none 0 0) := (blk_cell BK373.out 1).trans rfl
   have hfs38 := fz_ BK373 1
   have hns38_0 := NB353_373.out
   have hns38_1 := NB354_373.out
   have hns38_2 := NB355_373.out
   have hns38_3 := NB356_373.out
   have hns38_4 := NB372_373.out
   have hms38_0 := NB373_353.out
   have hms38_1 := NB373_354.out
   have hms38_2 := NB373_355.out
   have hms38_3 := NB373_356.out
   have hms38_4 := NB373_372.out
   refine skip_ (w1 := ?_) (by rfl) rfl ?_ ?_
   rotate_left
   ·go_simp
    rfl
   refine hK.out _ _ ⟨((cell_far (p := ⟨gb373, _, none⟩) NB353_373.out _).trans (((cell_far (p := ⟨gb373, _, none⟩) NB353_373.out _).trans (hHeld.1)))), ((cell_far (p := ⟨gb373, _, none⟩) NB353_373.out _).trans (((cell_far (p := ⟨gb373, _, none⟩) NB353_373.out _).trans (hHeld.2.1)))), ((cell_far (p := ⟨gb373, _, none⟩) NB354_373.out _).trans (((cell_far (p := ⟨gb373, _, none⟩) NB354_373.out _).trans (hHeld.2.2.1)))), ((cell_far (p := ⟨gb373, _, none⟩) NB354_373.out _).trans (((cell_far (p := ⟨gb373, _, none⟩) NB354_373.out _).trans (hHeld.2.2.2))))⟩ (fun hHeld => ?_)
   clear hK K
   refine done_ (done_of HT_.out (by kernel_rfl)) ?_
   try go_wp2
   have n0_ : Aside0 (Kd.R (Kd.int .u32) 47 ((((w32.setCell ⟨gb372, 0, none⟩ (.bool t364)).setCell ⟨gb372, 1, none⟩ (.slice Ao34 t365.length co34)).setCell ⟨gb373, 0, none⟩ (.bool t368)).setCell ⟨gb373, 1, none⟩ (.slice Ao37 t369.length co37)) w.heap.size (fun k_ => some k_ ≠ (.slice Ao26 t358.length co26 : Value).ownBlock ∧ some k_ ≠ (.slice Ao34 t365.length co34 : Value).ownBlock ∧ some k_ ≠ (.slice Ao37 t369.length co37 : Value).ownBlock) (.slice Ao25 t357.length co25) t357) := ⟨by (with_reducible repeat (first | apply Kd.R_alloc | apply Kd.R_drewN | apply Kd.R_drew)); exact Kd.R_mono (Kd.R_far (p := ⟨gb373, 1, none⟩) (Kd.R_far (p := ⟨gb373, 0, none⟩) (Kd.R_far (p := ⟨gb372, 1, none⟩) (Kd.R_far (p := ⟨gb372, 0, none⟩) (Kd.R_types (Kd.R_types HO361.out BK372.out (by decide)) BK373.out (by decide)) (fun _ hk => hk.1.2) (.bool t364)) (fun _ hk => hk.1.2) (.slice Ao34 t365.length co34)) (fun _ hk => hk.2) (.bool t368)) (fun _ hk => hk.2) (.slice Ao37 t369.length co37)) (fun _ hk => by first | exact ⟨hk.1.1.1, ⟨hk.1.1.2.1, hk.1.1.2.2⟩⟩ | simp [hk])⟩
   have n1_ : Aside0 (Kd.R (Kd.int .u32) 47 ((((w32.setCell ⟨gb372, 0, none⟩ (.bool t364)).setCell ⟨gb372, 1, none⟩ (.slice Ao34 t365.length co34)).setCell ⟨gb373, 0, none⟩ (.bool t368)).setCell ⟨gb373, 1, none⟩ (.slice Ao37 t369.length co37)) w.heap.size (fun k_ => some k_ ≠ (.slice Ao25 t357.length co25 : Value).ownBlock ∧ some k_ ≠ (.slice Ao34 t365.length co34 : Value).ownBlock ∧ some k_ ≠ (.slice Ao37 t369.length co37 : Value).ownBlock) (.slice Ao26 t358.length co26) t358) := ⟨by (with_reducible repeat (first | apply Kd.R_alloc | apply Kd.R_drewN | apply Kd.R_drew)); exact Kd.R_mono (Kd.R_far (p := ⟨gb373, 1, none⟩) (Kd.R_far (p := ⟨gb373, 0, none⟩) (Kd.R_far (p := ⟨gb372, 1, none⟩) (Kd.R_far (p := ⟨gb372, 0, none⟩) (Kd.R_types (Kd.R_types HO363.out BK372.out (by decide)) BK373.out (by decide)) (fun _ hk => hk.1.2) (.bool t364)) (fun _ hk => hk.1.2) (.slice Ao34 t365.length co34)) (fun _ hk => hk.2) (.bool t368)) (fun _ hk => hk.2) (.slice Ao37 t369.length co37)) (fun _ hk => by first | exact ⟨hk.1.1.1, ⟨hk.1.1.2.1, hk.1.1.2.2⟩⟩ | simp [hk])⟩
   have n2_ : Aside0 (Kd.R (Kd.int .u32) 47 ((((w32.setCell ⟨gb372, 0, none⟩ (.bool t364)).setCell ⟨gb372, 1, none⟩ (.slice Ao34 t365.length co34)).setCell ⟨gb373, 0, none⟩ (.bool t368)).setCell ⟨gb373, 1, none⟩ (.slice Ao37 t369.length co37)) w.heap.size (fun k_ => some k_ ≠ (.slice Ao25 t357.length co25 : Value).ownBlock ∧ some k_ ≠ (.slice Ao26 t358.length co26 : Value).ownBlock ∧ some k_ ≠ (.slice Ao37 t369.length co37 : Value).ownBlock) (.slice Ao34 t365.length co34) t365) := ⟨by (with_reducible repeat (first | apply Kd.R_alloc | apply Kd.R_drewN | apply Kd.R_drew)); exact Kd.R_mono (Kd.R_far (p := ⟨gb373, 1, none⟩) (Kd.R_far (p := ⟨gb373, 0, none⟩) (Kd.R_far (p := ⟨gb372, 1, none⟩) (Kd.R_far (p := ⟨gb372, 0, none⟩) (Kd.R_types (Kd.R_types HO367.out BK372.out (by decide)) BK373.out (by decide)) (fun _ hk => hk.1.2) (.bool t364)) (fun _ hk => hk.1.2) (.slice Ao34 t365.length co34)) (fun _ hk => hk.2) (.bool t368)) (fun _ hk => hk.2) (.slice Ao37 t369.length co37)) (fun _ hk => by first | exact ⟨hk.1.1.1, ⟨hk.1.1.2.1, hk.1.1.2.2⟩⟩ | simp [hk])⟩
   have n3_ : Aside0 (Kd.R (Kd.int .u32) 47 ((((w32.setCell ⟨gb372, 0, none⟩ (.bool t364)).setCell ⟨gb372, 1, none⟩ (.slice Ao34 t365.length co34)).setCell ⟨gb373, 0, none⟩ (.bool t368)).setCell ⟨gb373, 1, none⟩ (.slice Ao37 t369.length co37)) w.heap.size (fun k_ => some k_ ≠ (.slice Ao25 t357.length co25 : Value).ownBlock ∧ some k_ ≠ (.slice Ao26 t358.length co26 : Value).ownBlock ∧ some k_ ≠ (.slice Ao34 t365.length co34 : Value).ownBlock) (.slice Ao37 t369.length co37) t369) := ⟨by (with_reducible repeat (first | apply Kd.R_alloc | apply Kd.R_drewN | apply Kd.R_drew)); exact Kd.R_mono (Kd.R_far (p := ⟨gb373, 1, none⟩) (Kd.R_far (p := ⟨gb373, 0, none⟩) (Kd.R_far (p := ⟨gb372, 1, none⟩) (Kd.R_far (p := ⟨gb372, 0, none⟩) (Kd.R_types (Kd.R_types HO371.out BK372.out (by decide)) BK373.out (by decide)) (fun _ hk => hk.1.2) (.bool t364)) (fun _ hk => hk.1.2) (.slice Ao34 t365.length co34)) (fun _ hk => hk.2) (.bool t368)) (fun _ hk => hk.2) (.slice Ao37 t369.length co37)) (fun _ hk => by first | exact ⟨hk.1.1.1, ⟨hk.1.1.2.1, hk.1.1.2.2⟩⟩ | simp [hk])⟩
   have n4_ : Aside0 (((((w32.setCell ⟨gb372, 0, none⟩ (.bool t364)).setCell ⟨gb372, 1, none⟩ (.slice Ao34 t365.length co34)).setCell ⟨gb373, 0, none⟩ (.bool t368)).setCell ⟨gb373, 1, none⟩ (.slice Ao37 t369.length co37)).heap[gb353]? = some (.cells #[.bool a0_0, .slice A0_1 l0_1.length c0_1] 24 (0, 0))) := ⟨by refine kb_ ?_; refine bf_ NB353_373 ?_; refine bf_ NB353_373 ?_; refine bf_ NB353_372 ?_; refine bf_ NB353_372 ?_; exact BK353.out⟩
   have n5_ : Aside0 (((((w32.setCell ⟨gb372, 0, none⟩ (.bool t364)).setCell ⟨gb372, 1, none⟩ (.slice Ao34 t365.length co34)).setCell ⟨gb373, 0, none⟩ (.bool t368)).setCell ⟨gb373, 1, none⟩ (.slice Ao37 t369.length co37)).heap[gb354]? = some (.cells #[.bool a1_0, .slice A1_1 l1_1.length c1_1] 24 (0, 0))) := ⟨by refine kb_ ?_; refine bf_ NB354_373 ?_; refine bf_ NB354_373 ?_; refine bf_ NB354_372 ?_; refine bf_ NB354_372 ?_; exact BK354.out⟩
   have n6_ : Aside0 (((((w32.setCell ⟨gb372, 0, none⟩ (.bool t364)).setCell ⟨gb372, 1, none⟩ (.slice Ao34 t365.length co34)).setCell ⟨gb373, 0, none⟩ (.bool t368)).setCell ⟨gb373, 1, none⟩ (.slice Ao37 t369.length co37)).heap[gb355]? = some (.cells #[.bool false, .slice none 0 0] 24 (0, 0))) := ⟨by refine kb_ ?_; refine bf_ NB355_373 ?_; refine bf_ NB355_373 ?_; refine bf_ NB355_372 ?_; refine bf_ NB355_372 ?_; exact BK355.out⟩
   have n7_ : Aside0 (((((w32.setCell ⟨gb372, 0, none⟩ (.bool t364)).setCell ⟨gb372, 1, none⟩ (.slice Ao34 t365.length co34)).setCell ⟨gb373, 0, none⟩ (.bool t368)).setCell ⟨gb373, 1, none⟩ (.slice Ao37 t369.length co37)).heap[gb356]? = some (.cells #[.bool false, .slice none 0 0] 24 (0, 0))) := ⟨by refine kb_ ?_; refine bf_ NB356_373 ?_; refine bf_ NB356_373 ?_; refine bf_ NB356_372 ?_; refine bf_ NB356_372 ?_; exact BK356.out⟩
   have n8_ : Aside0 (((((w32.setCell ⟨gb372, 0, none⟩ (.bool t364)).setCell ⟨gb372, 1, none⟩ (.slice Ao34 t365.length co34)).setCell ⟨gb373, 0, none⟩ (.bool t368)).setCell ⟨gb373, 1, none⟩ (.slice Ao37 t369.length co37)).heap[gb372]? = some (.cells #[.bool t364, .slice Ao34 t365.length co34] 24 (0, 0))) := ⟨by refine kb_ ?_; refine bf_ NB372_373 ?_; refine bf_ NB372_373 ?_; refine bp_ #[.bool t364, .slice none 0 0] 1 ?_; refine bp_ #[.bool false, .slice none 0 0] 0 ?_; exact BK372.out⟩
   have n9_ : Aside0 (((((w32.setCell ⟨gb372, 0, none⟩ (.bool t364)).setCell ⟨gb372, 1, none⟩ (.slice Ao34 t365.length co34)).setCell ⟨gb373, 0, none⟩ (.bool t368)).setCell ⟨gb373, 1, none⟩ (.slice Ao37 t369.length co37)).heap[gb373]? = some (.cells #[.bool t368, .slice Ao37 t369.length co37] 24 (0, 0))) := ⟨by refine kb_ ?_; refine bp_ #[.bool t368, .slice none 0 0] 1 ?_; refine bp_ #[.bool false, .slice none 0 0] 0 ?_; refine bf_ NB373_372 ?_; refine bf_ NB373_372 ?_; exact BK373.out⟩
   have n10_ : Aside0 (Below w.heap.size w ((((w32.setCell ⟨gb372, 0, none⟩ (.bool t364)).setCell ⟨gb372, 1, none⟩ (.slice Ao34 t365.length co34)).setCell ⟨gb373, 0, none⟩ (.bool t368)).setCell ⟨gb373, 1, none⟩ (.slice Ao37 t369.length co37))) := ⟨bw_ HB.out⟩
   (try clear HO361)
   (try clear HO363)
   (try clear HO367)
   (try clear HO371)
   (try clear BK353)
   (try clear BK354)
   (try clear BK355)
   (try clear BK356)
   (try clear BK372)
   (try clear BK373)
   (try clear HB)
   generalize ((((w32.setCell ⟨gb372, 0, none⟩ (.bool t364)).setCell ⟨gb372, 1, none⟩ (.slice Ao34 t365.length co34)).setCell ⟨gb373, 0, none⟩ (.bool t368)).setCell ⟨gb373, 1, none⟩ (.slice Ao37 t369.length co37)) = w39 at n0_ n1_ n2_ n3_ n4_ n5_ n6_ n7_ n8_ n9_ n10_ ⊢
   have HO361 := n0_
   have HO363 := n1_
   have HO367 := n2_
   have HO371 := n3_
   have BK353 := n4_
   have BK354 := n5_
   have BK355 := n6_
   have BK356 := n7_
   have BK372 := n8_
   have BK373 := n9_
   have HB := n10_
   clear n0_ n1_ n2_ n3_ n4_ n5_ n6_ n7_ n8_ n9_ n10_
   replace HO361 := Aside0.mk (Kd.R_drew HO361.out)
   replace HO363 := Aside0.mk (Kd.R_drew HO363.out)
   replace HO367 := Aside0.mk (Kd.R_drew HO367.out)
   replace HO371 := Aside0.mk (Kd.R_drew HO371.out)
   replace BK353 := Aside0.mk (blk_drew BK353.out)
   replace BK354 := Aside0.mk (blk_drew BK354.out)
   replace BK355 := Aside0.mk (blk_drew BK355.out)
   replace BK356 := Aside0.mk (blk_drew BK356.out)
   replace BK372 := Aside0.mk (blk_drew BK372.out)
   replace BK373 := Aside0.mk (blk_drew BK373.out)
   replace HB := Aside0.mk (below_drew1 HB.out)
   refine start_ (n := 6) (S := fun w' => w'.cell? ⟨gb373, 0, none⟩ = some (.bool t368) ∧ w'.cell? ⟨gb373, 1, none⟩ = some (.slice Ao37 t369.length co37) ∧ w'.cell? ⟨gb354, 0, none⟩ = some (.bool a1_0) ∧ w'.cell? ⟨gb354, 1, none⟩ = some (.slice A1_1 l1_1.length c1_1)) (ds := []) #[false, false, false, false, false, false] (by kernel_rfl) rfl rfl ⟨(blk_cell BK373.out 0).trans rfl, (blk_cell BK373.out 1).trans rfl, (blk_cell BK354.out 0).trans rfl, (blk_cell BK354.out 1).trans rfl⟩ (fun hHeld => ?_)
   generalize w39.drew = w40 at HO361 HO363 HO367 HO371 BK353 BK354 BK355 BK356 BK372 BK373 HB hHeld ⊢
   refine take_ (i := 0) (N := some 36) (v := ?_) (a' := ?_) #[true, false, false, false, false, false] rfl rfl (by kernel_rfl) (fun _ _ _ h => h) (Or.inl ⟨by rfl, ?_⟩) hHeld ?_ ?_
   rotate_left
   ·rintro w' ⟨s0, s1, s2, s3⟩
    go_simp
    with_reducible rfl
   rotate_left
   ·exact pt_
   refine take_ (i := 2) (N := some 38) (v := ?_) (a' := ?_) #[true, false, true, false, false, false] rfl rfl (by kernel_rfl) (fun _ _ _ h => h) (Or.inl ⟨by rfl, ?_⟩) hHeld ?_ ?_
   rotate_left
   ·rintro w' ⟨s0, s1, s2, s3⟩
    go_simp
    with_reducible rfl
   rotate_left
   ·exact pt_
   refine one_ (i := 1) (N := some 37) #[true, true, true, false, false, false] rfl rfl (by kernel_rfl) (by decide) (fun K hK => ?_)
   refine gs_ Try.func24 #[.agg #[.bool t368, .slice Ao37 t369.length co37]] ?_
   with_reducible refine (whole_Sign.calls k t368 _ _ t369 t374 _ ?side1 ?side2 A7.out).mono ?_
   (case side1 => exact kc_ (Kd.R_reads' HO371.out).2.2)
   (case side2 => exact (Kd.R_reads' HO371.out).2.1)
   rintro e w41 ⟨rfl, hb⟩
   refine ⟨_, rfl, ?_⟩
   replace HO361 := Aside0.mk (Kd.R_below (kr_ HO361.out) hb)
   replace HO363 := Aside0.mk (Kd.R_below (kr_ HO363.out) hb)
   replace HO367 := Aside0.mk (Kd.R_below (kr_ HO367.out) hb)
   replace HO371 := Aside0.mk (Kd.R_below (kr_ HO371.out) hb)
   replace BK353 := kq_ BK353 hb
   replace BK354 := kq_ BK354 hb
   replace BK355 := kq_ BK355 hb
   replace BK356 := kq_ BK356 hb
   replace BK372 := kq_ BK372 hb
   replace BK373 := kq_ BK373 hb
   replace HB := bq_ HB hb
   (try clear hb)
   (try clear hb2)
   (try clear hk)
   (try clear hi)
   refine hK.out _ _ ⟨(blk_cell BK373.out 0).trans rfl, (blk_cell BK373.out 1).trans rfl, (blk_cell BK354.out 0).trans rfl, (blk_cell BK354.out 1).trans rfl⟩ (fun hHeld => ?_)
   clear hK K
   refine norm_ (a' := ?_) ?_ ?_
   rotate_left
   ·show Act.put _ (some 37) _ = _
    exact pt_
   refine one_ (i := 3) (N := some 39) #[true, true, true, true, false, false] rfl rfl (by kernel_rfl) (by decide) (fun K hK => ?_)
   refine gs_ Try.func24 #[.agg #[.bool a1_0, .slice A1_1 l1_1.length c1_1]] ?_
   with_reducible refine (whole_Sign.calls k a1_0 _ _ l1_1 t375 _ ?side1 ?side2 A8.out).mono ?_
   (case side1 => exact kc_ (Kd.C_below HR1_1.out HB.out))
   (case side2 => exact HC1_1.out)
   rintro e w42 ⟨rfl, hb⟩
   refine ⟨_, rfl, ?_⟩
   replace HO361 := Aside0.mk (Kd.R_below (kr_ HO361.out) hb)
   replace HO363 := Aside0.mk (Kd.R_below (kr_ HO363.out) hb)
   replace HO367 := Aside0.mk (Kd.R_below (kr_ HO367.out) hb)
   replace HO371 := Aside0.mk (Kd.R_below (kr_ HO371.out) hb)
   replace BK353 := kq_ BK353 hb
   replace BK354 := kq_ BK354 hb
   replace BK355 := kq_ BK355 hb
   replace BK356 := kq_ BK356 hb
   replace BK372 := kq_ BK372 hb
   replace BK373 := kq_ BK373 hb
   replace HB := bq_ HB hb
   (try clear hb)
   (try clear hb2)
   (try clear hk)
   (try clear hi)
   refine hK.out _ _ ⟨(blk_cell BK373.out 0).trans rfl, (blk_cell BK373.out 1).trans rfl, (blk_cell BK354.out 0).trans rfl, (blk_cell BK354.out 1).trans rfl⟩ (fun hHeld => ?_)
   clear hK K
   refine norm_ (a' := ?_) ?_ ?_
   rotate_left
   ·show Act.put _ (some 39) _ = _
    exact pt_
   refine pure_ (i := 4) (N := some 40) (v := ?_) (a' := ?_) #[true, true, true, true, true, false] rfl rfl (by kernel_rfl) (fun _ _ _ h => h) (Or.inl ⟨by rfl, ?_⟩) ?_ ?_
   rotate_left
   ·intro w'
    go_simp
    with_reducible rfl
   rotate_left
   ·exact pt_
   refine pure_ (i := 5) (N := some 41) (v := ?_) (a' := ?_) #[true, true, true, true, true, true] rfl rfl (by kernel_rfl) (fun _ _ _ h => h) (Or.inl ⟨by rfl, ?_⟩) ?_ ?_
   rotate_left
   ·intro w'
    go_simp
    with_reducible rfl
   rotate_left
   ·exact pt_
   refine done_ (by kernel_rfl) ?_
   try go_wp2
   replace HO361 := Aside0.mk (Kd.R_drew HO361.out)
   replace HO363 := Aside0.mk (Kd.R_drew HO363.out)
   replace HO367 := Aside0.mk (Kd.R_drew HO367.out)
   replace HO371 := Aside0.mk (Kd.R_drew HO371.out)
   replace BK353 := Aside0.mk (blk_drew BK353.out)
   replace BK354 := Aside0.mk (blk_drew BK354.out)
   replace BK355 := Aside0.mk (blk_drew BK355.out)
   replace BK356 := Aside0.mk (blk_drew BK356.out)
   replace BK372 := Aside0.mk (blk_drew BK372.out)
   replace BK373 := Aside0.mk (blk_drew BK373.out)
   replace HB := Aside0.mk (below_drew1 HB.out)
   refine start_ (n := 8) (S := fun w' => w'.cell? ⟨gb372, 0, none⟩ = some (.bool t364) ∧ w'.cell? ⟨gb372, 1, none⟩ = some (.slice Ao34 t365.length co34) ∧ w'.cell? ⟨gb373, 0, none⟩ = some (.bool t368) ∧ w'.cell? ⟨gb373, 1, none⟩ = some (.slice Ao37 t369.length co37) ∧ w'.cell? ⟨gb354, 0, none⟩ = some (.bool a1_0) ∧ w'.cell? ⟨gb354, 1, none⟩ = some (.slice A1_1 l1_1.length c1_1)) (ds := [6, 7]) #[false, false, false, false, false, false, false, false] (by kernel_rfl) rfl rfl ⟨(blk_cell BK372.out 0).trans rfl, (blk_cell BK372.out 1).trans rfl, (blk_cell BK373.out 0).trans rfl, (blk_cell BK373.out 1).trans rfl, (blk_cell BK354.out 0).trans rfl, (blk_cell BK354.out 1).trans rfl⟩ (fun hHeld => ?_); refine with_tabW whole_Div.tab6 whole_Div.bits6 (fun HT_ HW_ => ?_)
   generalize w42.drew = w43 at HO361 HO363 HO367 HO371 BK353 BK354 BK355 BK356 BK372 BK373 HB hHeld ⊢
   refine take_ (i := 0) (N := some 42) (v := ?_) (a' := ?_) #[true, false, false, false, false, false, false, false] rfl rfl (take_ofW HT_.out HW_.out (by kernel_rfl)) (fun _ _ _ h => h) (Or.inl ⟨by rfl, ?_⟩) hHeld ?_ ?_
   rotate_left
   ·rintro w' ⟨s0, s1, s2, s3, s4, s5⟩
    go_simp
    with_reducible rfl
   rotate_left
   ·exact pt_
   refine take_ (i := 3) (N := some 45) (v := ?_) (a' := ?_) #[true, false, false, true, false, false, false, false] rfl rfl (take_ofW HT_.out HW_.out (by kernel_rfl)) (fun _ _ _ h => h) (Or.inl ⟨by rfl, ?_⟩) hHeld ?_ ?_
   rotate_left
   ·rintro w' ⟨s0, s1, s2, s3, s4, s5⟩
    go_simp
    with_reducible rfl
   rotate_left
   ·exact pt_
   refine take_ (i := 4) (N := some 46) (v := ?_) (a' := ?_) #[true, false, false, true, true, false, false, false] rfl rfl (take_ofW HT_.out HW_.out (by kernel_rfl)) (fun _ _ _ h => h) (Or.inl ⟨by rfl, ?_⟩) hHeld ?_ ?_
   rotate_left
   ·rintro w' ⟨s0, s1, s2, s3, s4, s5⟩
    go_simp
    with_reducible rfl
   rotate_left
   ·exact pt_
   refine one_ (i := 1) (N := some 43) #[true, true, false, true, true, false, false, false] rfl rfl (one_of HT_.out (by kernel_rfl)) (by decide) (fun K hK => ?_)
   refine gs_ Try.func19 #[.int .i64 (-1)] ?_
   with_reducible refine (whole_From.calls k (-1) t376 t377 _ A10.out).mono ?_
   rintro e w44 ⟨v378, rfl, ho0, hb⟩
   refine ⟨_, rfl, ?_⟩
   have HO379 := Aside0.mk (Kd.R_lower (Kd.R_new' (Kd.R_new' (Kd.R_new' (Kd.R_new' ho0 (Kd.R_lt (kr_ HO361.out))) (Kd.R_lt (kr_ HO363.out))) (Kd.R_lt (kr_ HO367.out))) (Kd.R_lt (kr_ HO371.out))) (below_size (bw_ HB.out)))
   replace HO361 := Aside0.mk (Kd.R_elder' (kr_ HO361.out) (Kd.R_base ho0) hb)
   replace HO363 := Aside0.mk (Kd.R_elder' (kr_ HO363.out) (Kd.R_base ho0) hb)
   replace HO367 := Aside0.mk (Kd.R_elder' (kr_ HO367.out) (Kd.R_base ho0) hb)
   replace HO371 := Aside0.mk (Kd.R_elder' (kr_ HO371.out) (Kd.R_base ho0) hb)
   replace BK353 := kq_ BK353 hb
   replace BK354 := kq_ BK354 hb
   replace BK355 := kq_ BK355 hb
   replace BK356 := kq_ BK356 hb
   replace BK372 := kq_ BK372 hb
   replace BK373 := kq_ BK373 hb
   replace HB := bq_ HB hb
   (try clear hb)
   (try clear hb2)
   (try clear hk)
   (try clear hi)
   (try clear ho0)
   obtain ⟨Ao45, co45, eo45⟩ := Kd.R_slice HO379.out
   (first | subst eo45 | (injection eo45 with f1_ f2_ f3_; have f4_ := f1_.symm; have f5_ := f3_.symm; clear f1_ f2_ f3_; subst f4_; subst f5_))
   refine hK.out _ _ ⟨(blk_cell BK372.out 0).trans rfl, (blk_cell BK372.out 1).trans rfl, (blk_cell BK373.out 0).trans rfl, (blk_cell BK373.out 1).trans rfl, (blk_cell BK354.out 0).trans rfl, (blk_cell BK354.out 1).trans rfl⟩ (fun hHeld => ?_)
   clear hK K
   refine norm_ (a' := ?_) ?_ ?_
   rotate_left
   ·show Act.put _ (some 43) _ = _
    exact pt_
   refine one_ (i := 2) (N := some 44) #[true, true, true, true, true, false, false, false] rfl rfl (one_of HT_.out (by kernel_rfl)) (by decide) (fun K hK => ?_)
   refine gs_ Try.func27 #[.agg #[.bool t364, .slice Ao34 t365.length co34], .agg #[.bool t376, .slice Ao45 t377.length co45]] ?_
   with_reducible refine (whole_Add.calls k t364 _ _ t365 t376 _ _ t377 t380 t381 _ ?side1 ?side2 ?side3 ?side4 A11.out).mono ?_
   (case side1 => exact kc_ (Kd.R_reads' HO367.out).2.2)
   (case side2 => exact (Kd.R_reads' HO367.out).2.1)
   (case side3 => exact kc_ (Kd.R_reads' HO379.out).2.2)
   (case side4 => exact (Kd.R_reads' HO379.out).2.1)
   rintro e w46 ⟨v382, rfl, ho0, hb⟩
   refine ⟨_, rfl, ?_⟩
   have HO383 := Aside0.mk (Kd.R_lower (Kd.R_new' (Kd.R_new' (Kd.R_new' (Kd.R_new' (Kd.R_new' ho0 (Kd.R_lt (kr_ HO361.out))) (Kd.R_lt (kr_ HO363.out))) (Kd.R_lt (kr_ HO367.out))) (Kd.R_lt (kr_ HO371.out))) (Kd.R_lt (kr_ HO379.out))) (below_size (bw_ HB.out)))
   replace HO361 := Aside0.mk (Kd.R_elder' (kr_ HO361.out) (Kd.R_base ho0) hb)
   replace HO363 := Aside0.mk (Kd.R_elder' (kr_ HO363.out) (Kd.R_base ho0) hb)
   replace HO367 := Aside0.mk (Kd.R_elder' (kr_ HO367.out) (Kd.R_base ho0) hb)
   replace HO371 := Aside0.mk (Kd.R_elder' (kr_ HO371.out) (Kd.R_base ho0) hb)
   replace HO379 := Aside0.mk (Kd.R_elder' (kr_ HO379.out) (Kd.R_base ho0) hb)
   replace BK353 := kq_ BK353 hb
   replace BK354 := kq_ BK354 hb
   replace BK355 := kq_ BK355 hb
   replace BK356 := kq_ BK356 hb
   replace BK372 := kq_ BK372 hb
   replace BK373 := kq_ BK373 hb
   replace HB := bq_ HB hb
   (try clear hb)
   (try clear hb2)
   (try clear hk)
   (try clear hi)
   (try clear ho0)
   refine hK.out _ _ ⟨(blk_cell BK372.out 0).trans rfl, (blk_cell BK372.out 1).trans rfl, (blk_cell BK373.out 0).trans rfl, (blk_cell BK373.out 1).trans rfl, (blk_cell BK354.out 0).trans rfl, (blk_cell BK354.out 1).trans rfl⟩ (fun hHeld => ?_)
   clear hK K
   refine norm_ (a' := ?_) ?_ ?_
   rotate_left
   ·show Act.put _ (some 44) _ = _
    exact pt_
   refine one_ (i := 5) (N := some 47) #[true, true, true, true, true, true, false, false] rfl rfl (one_of HT_.out (by kernel_rfl)) (by decide) (fun K hK => ?_)
   refine gs_ Try.func27 #[.agg #[.bool t368, .slice Ao37 t369.length co37], .agg #[.bool a1_0, .slice A1_1 l1_1.length c1_1]] ?_
   with_reducible refine (whole_Add.calls k t368 _ _ t369 a1_0 _ _ l1_1 t384 t385 _ ?side1 ?side2 ?side3 ?side4 A12.out).mono ?_
   (case side1 => exact kc_ (Kd.R_reads' HO371.out).2.2)
   (case side2 => exact (Kd.R_reads' HO371.out).2.1)
   (case side3 => exact kc_ (Kd.C_below HR1_1.out HB.out))
   (case side4 => exact HC1_1.out)
   rintro e w47 ⟨v386, rfl, ho0, hb⟩
   refine ⟨_, rfl, ?_⟩
   have HO387 := Aside0.mk (Kd.R_lower (Kd.R_new' (Kd.R_new' (Kd.R_new' (Kd.R_new' (Kd.R_new' (Kd.R_new' ho0 (Kd.R_lt (kr_ HO361.out))) (Kd.R_lt (kr_ HO363.out))) (Kd.R_lt (kr_ HO367.out))) (Kd.R_lt (kr_ HO371.out))) (Kd.R_lt (kr_ HO379.out))) (Kd.R_lt (kr_ HO383.out))) (below_size (bw_ HB.out)))
   replace HO361 := Aside0.mk (Kd.R_elder' (kr_ HO361.out) (Kd.R_base ho0) hb)
   replace HO363 := Aside0.mk (Kd.R_elder' (kr_ HO363.out) (Kd.R_base ho0) hb)
   replace HO367 := Aside0.mk (Kd.R_elder' (kr_ HO367.out) (Kd.R_base ho0) hb)
   replace HO371 := Aside0.mk (Kd.R_elder' (kr_ HO371.out) (Kd.R_base ho0) hb)
   replace HO379 := Aside0.mk (Kd.R_elder' (kr_ HO379.out) (Kd.R_base ho0) hb)
   replace HO383 := Aside0.mk (Kd.R_elder' (kr_ HO383.out) (Kd.R_base ho0) hb)
   replace BK353 := kq_ BK353 hb
   replace BK354 := kq_ BK354 hb
   replace BK355 := kq_ BK355 hb
   replace BK356 := kq_ BK356 hb
   replace BK372 := kq_ BK372 hb
   replace BK373 := kq_ BK373 hb
   replace HB := bq_ HB hb
   (try clear hb)
   (try clear hb2)
   (try clear hk)
   (try clear hi)
   (try clear ho0)
   obtain ⟨Ao49, co49, eo49⟩ := Kd.R_slice HO383.out
   (first | subst eo49 | (injection eo49 with f1_ f2_ f3_; have f4_ := f1_.symm; have f5_ := f3_.symm; clear f1_ f2_ f3_; subst f4_; subst f5_))
   obtain ⟨Ao52, co52, eo52⟩ := Kd.R_slice HO387.out
   (first | subst eo52 | (injection eo52 with f1_ f2_ f3_; have f4_ := f1_.symm; have f5_ := f3_.symm; clear f1_ f2_ f3_; subst f4_; subst f5_))
   refine hK.out _ _ ⟨(blk_cell BK372.out 0).trans rfl, (blk_cell BK372.out 1).trans rfl, (blk_cell BK373.out 0).trans rfl, (blk_cell BK373.out 1).trans rfl, (blk_cell BK354.out 0).trans rfl, (blk_cell BK354.out 1).trans rfl⟩ (fun hHeld => ?_)
   clear hK K
   refine norm_ (a' := ?_) ?_ ?_
   rotate_left
   ·show Act.put _ (some 47) _ = _
    exact pt_
   refine last_ (i := 6) (N := none) #[true, true, true, true, true, true, true, false] rfl rfl (one_of HT_.out (by kernel_rfl)) (by decide) (fun K hK => ?_)
   have hs48 : w47.cell? ⟨gb372, 0, none⟩ = some (.bool t364) := (blk_cell BK372.out 0).trans rfl
   have hfs48 := fz_ BK372 0
   have hns48_0 := NB353_372.out
   have hns48_1 := NB354_372.out
   have hns48_2 := NB355_372.out
   have hns48_3 := NB356_372.out
   have hns48_5 := NB373_372.out
   have hms48_0 := NB372_353.out
   have hms48_1 := NB372_354.out
   have hms48_2 := NB372_355.out
   have hms48_3 := NB372_356.out
   have hms48_5 := NB372_373.out
   have hs50 : w47.cell? ⟨gb372, 1, none⟩ = some (.slice Ao34 t365.length co34) := (blk_cell BK372.out 1).trans rfl
   have hfs50 := fz_ BK372 1
   have hns50_0 := NB353_372.out
   have hns50_1 := NB354_372.out
   have hns50_2 := NB355_372.out
   have hns50_3 := NB356_372.out
   have hns50_5 := NB373_372.out
   have hms50_0 := NB372_353.out
   have hms50_1 := NB372_354.out
   have hms50_2 := NB372_355.out
   have hms50_3 := NB372_356.out
   have hms50_5 := NB372_373.out
   refine skip_ (w1 := ?_) (by rfl) rfl ?_ ?_
   rotate_left
   ·go_simp
    rfl
   refine hK.out _ _ ?_
   clear hK K
   refine last_ (i := 7) (N := none) #[true, true, true, true, true, true, true, true] rfl rfl (one_of HT_.out (by kernel_rfl)) (by decide) (fun K hK => ?_)
   have hs51 : w47.cell? ⟨gb373, 0, none⟩ = some (.bool t368) := (blk_cell BK373.out 0).trans rfl
   have hfs51 := fz_ BK373 0
   have hns51_0 := NB353_373.out
   have hns51_1 := NB354_373.out
   have hns51_2 := NB355_373.out
   have hns51_3 := NB356_373.out
   have hns51_4 := NB372_373.out
   have hms51_0 := NB373_353.out
   have hms51_1 := NB373_354.out
   have hms51_2 := NB373_355.out
   have hms51_3 := NB373_356.out
   have hms51_4 := NB373_372.out
   have hs53 : w47.cell? ⟨gb373, 1, none⟩ = some (.slice Ao37 t369.length co37) := (blk_cell BK373.out 1).trans rfl
   have hfs53 := fz_ BK373 1
   have hns53_0 := NB353_373.out
   have hns53_1 := NB354_373.out
   have hns53_2 := NB355_373.out
   have hns53_3 := NB356_373.out
   have hns53_4 := NB372_373.out
   have hms53_0 := NB373_353.out
   have hms53_1 := NB373_354.out
   have hms53_2 := NB373_355.out
   have hms53_3 := NB373_356.out
   have hms53_4 := NB373_372.out
   refine skip_ (w1 := ?_) (by rfl) rfl ?_ ?_
   rotate_left
   ·go_simp
    rfl
   refine hK.out _ _ ?_
   clear hK K
   refine done_ (done_of HT_.out (by kernel_rfl)) ?_
   try go_wp2
   have n0_ : Aside0 (Kd.R (Kd.int .u32) 47 ((((w47.setCell ⟨gb372, 0, none⟩ (.bool t380)).setCell ⟨gb372, 1, none⟩ (.slice Ao49 t381.length co49)).setCell ⟨gb373, 0, none⟩ (.bool t384)).setCell ⟨gb373, 1, none⟩ (.slice Ao52 t385.length co52)) w.heap.size (fun k_ => some k_ ≠ (.slice Ao26 t358.length co26 : Value).ownBlock ∧ some k_ ≠ (.slice Ao34 t365.length co34 : Value).ownBlock ∧ some k_ ≠ (.slice Ao37 t369.length co37 : Value).ownBlock ∧ some k_ ≠ (.slice Ao45 t377.length co45 : Value).ownBlock ∧ some k_ ≠ (.slice Ao49 t381.length co49 : Value).ownBlock ∧ some k_ ≠ (.slice Ao52 t385.length co52 : Value).ownBlock) (.slice Ao25 t357.length co25) t357) := ⟨by (with_reducible repeat (first | apply Kd.R_alloc | apply Kd.R_drewN | apply Kd.R_drew)); exact Kd.R_mono (Kd.R_far (p := ⟨gb373, 1, none⟩) (Kd.R_far (p := ⟨gb373, 0, none⟩) (Kd.R_far (p := ⟨gb372, 1, none⟩) (Kd.R_far (p := ⟨gb372, 0, none⟩) (Kd.R_types (Kd.R_types HO361.out BK372.out (by decide)) BK373.out (by decide)) (fun _ hk => hk.1.2) (.bool t380)) (fun _ hk => hk.1.2) (.slice Ao49 t381.length co49)) (fun _ hk => hk.2) (.bool t384)) (fun _ hk => hk.2) (.slice Ao52 t385.length co52)) (fun _ hk => by first | exact ⟨hk.1.1.1.1.1.1, ⟨hk.1.1.1.1.1.2.1, ⟨hk.1.1.1.1.1.2.2, ⟨hk.1.1.1.1.2, ⟨hk.1.1.1.2, hk.1.1.2⟩⟩⟩⟩⟩ | simp [hk])⟩
   have n1_ : Aside0 (Kd.R (Kd.int .u32) 47 ((((w47.setCell ⟨gb372, 0, none⟩ (.bool t380)).setCell ⟨gb372, 1, none⟩ (.slice Ao49 t381.length co49)).setCell ⟨gb373, 0, none⟩ (.bool t384)).setCell ⟨gb373, 1, none⟩ (.slice Ao52 t385.length co52)) w.heap.size (fun k_ => some k_ ≠ (.slice Ao25 t357.length co25 : Value).ownBlock ∧ some k_ ≠ (.slice Ao34 t365.length co34 : Value).ownBlock ∧ some k_ ≠ (.slice Ao37 t369.length co37 : Value).ownBlock ∧ some k_ ≠ (.slice Ao45 t377.length co45 : Value).ownBlock ∧ some k_ ≠ (.slice Ao49 t381.length co49 : Value).ownBlock ∧ some k_ ≠ (.slice Ao52 t385.length co52 : Value).ownBlock) (.slice Ao26 t358.length co26) t358) := ⟨by (with_reducible repeat (first | apply Kd.R_alloc | apply Kd.R_drewN | apply Kd.R_drew)); exact Kd.R_mono (Kd.R_far (p := ⟨gb373, 1, none⟩) (Kd.R_far (p := ⟨gb373, 0, none⟩) (Kd.R_far (p := ⟨gb372, 1, none⟩) (Kd.R_far (p := ⟨gb372, 0, none⟩) (Kd.R_types (Kd.R_types HO363.out BK372.out (by decide)) BK373.out (by decide)) (fun _ hk => hk.1.2) (.bool t380)) (fun _ hk => hk.1.2) (.slice Ao49 t381.length co49)) (fun _ hk => hk.2) (.bool t384)) (fun _ hk => hk.2) (.slice Ao52 t385.length co52)) (fun _ hk => by first | exact ⟨hk.1.1.1.1.1.1, ⟨hk.1.1.1.1.1.2.1, ⟨hk.1.1.1.1.1.2.2, ⟨hk.1.1.1.1.2, ⟨hk.1.1.1.2, hk.1.1.2⟩⟩⟩⟩⟩ | simp [hk])⟩
   have n2_ : Aside0 (Kd.R (Kd.int .u32) 47 ((((w47.setCell ⟨gb372, 0, none⟩ (.bool t380)).setCell ⟨gb372, 1, none⟩ (.slice Ao49 t381.length co49)).setCell ⟨gb373, 0, none⟩ (.bool t384)).setCell ⟨gb373, 1, none⟩ (.slice Ao52 t385.length co52)) w.heap.size (fun k_ => some k_ ≠ (.slice Ao25 t357.length co25 : Value).ownBlock ∧ some k_ ≠ (.slice Ao26 t358.length co26 : Value).ownBlock ∧ some k_ ≠ (.slice Ao37 t369.length co37 : Value).ownBlock ∧ some k_ ≠ (.slice Ao45 t377.length co45 : Value).ownBlock ∧ some k_ ≠ (.slice Ao49 t381.length co49 : Value).ownBlock ∧ some k_ ≠ (.slice Ao52 t385.length co52 : Value).ownBlock) (.slice Ao34 t365.length co34) t365) := ⟨by (with_reducible repeat (first | apply Kd.R_alloc | apply Kd.R_drewN | apply Kd.R_drew)); exact Kd.R_mono (Kd.R_far (p := ⟨gb373, 1, none⟩) (Kd.R_far (p := ⟨gb373, 0, none⟩) (Kd.R_far (p := ⟨gb372, 1, none⟩) (Kd.R_far (p := ⟨gb372, 0, none⟩) (Kd.R_types (Kd.R_types HO367.out BK372.out (by decide)) BK373.out (by decide)) (fun _ hk => hk.1.2) (.bool t380)) (fun _ hk => hk.1.2) (.slice Ao49 t381.length co49)) (fun _ hk => hk.2) (.bool t384)) (fun _ hk => hk.2) (.slice Ao52 t385.length co52)) (fun _ hk => by first | exact ⟨hk.1.1.1.1.1.1, ⟨hk.1.1.1.1.1.2.1, ⟨hk.1.1.1.1.1.2.2, ⟨hk.1.1.1.1.2, ⟨hk.1.1.1.2, hk.1.1.2⟩⟩⟩⟩⟩ | simp [hk])⟩
   have n3_ : Aside0 (Kd.R (Kd.int .u32) 47 ((((w47.setCell ⟨gb372, 0, none⟩ (.bool t380)).setCell ⟨gb372, 1, none⟩ (.slice Ao49 t381.length co49)).setCell ⟨gb373, 0, none⟩ (.bool t384)).setCell ⟨gb373, 1, none⟩ (.slice Ao52 t385.length co52)) w.heap.size (fun k_ => some k_ ≠ (.slice Ao25 t357.length co25 : Value).ownBlock ∧ some k_ ≠ (.slice Ao26 t358.length co26 : Value).ownBlock ∧ some k_ ≠ (.slice Ao34 t365.length co34 : Value).ownBlock ∧ some k_ ≠ (.slice Ao45 t377.length co45 : Value).ownBlock ∧ some k_ ≠ (.slice Ao49 t381.length co49 : Value).ownBlock ∧ some k_ ≠ (.slice Ao52 t385.length co52 : Value).ownBlock) (.slice Ao37 t369.length co37) t369) := ⟨by (with_reducible repeat (first | apply Kd.R_alloc | apply Kd.R_drewN | apply Kd.R_drew)); exact Kd.R_mono (Kd.R_far (p := ⟨gb373, 1, none⟩) (Kd.R_far (p := ⟨gb373, 0, none⟩) (Kd.R_far (p := ⟨gb372, 1, none⟩) (Kd.R_far (p := ⟨gb372, 0, none⟩) (Kd.R_types (Kd.R_types HO371.out BK372.out (by decide)) BK373.out (by decide)) (fun _ hk => hk.1.2) (.bool t380)) (fun _ hk => hk.1.2) (.slice Ao49 t381.length co49)) (fun _ hk => hk.2) (.bool t384)) (fun _ hk => hk.2) (.slice Ao52 t385.length co52)) (fun _ hk => by first | exact ⟨hk.1.1.1.1.1.1, ⟨hk.1.1.1.1.1.2.1, ⟨hk.1.1.1.1.1.2.2, ⟨hk.1.1.1.1.2, ⟨hk.1.1.1.2, hk.1.1.2⟩⟩⟩⟩⟩ | simp [hk])⟩
   have n4_ : Aside0 (Kd.R (Kd.int .u32) 47 ((((w47.setCell ⟨gb372, 0, none⟩ (.bool t380)).setCell ⟨gb372, 1, none⟩ (.slice Ao49 t381.length co49)).setCell ⟨gb373, 0, none⟩ (.bool t384)).setCell ⟨gb373, 1, none⟩ (.slice Ao52 t385.length co52)) w.heap.size (fun k_ => some k_ ≠ (.slice Ao25 t357.length co25 : Value).ownBlock ∧ some k_ ≠ (.slice Ao26 t358.length co26 : Value).ownBlock ∧ some k_ ≠ (.slice Ao34 t365.length co34 : Value).ownBlock ∧ some k_ ≠ (.slice Ao37 t369.length co37 : Value).ownBlock ∧ some k_ ≠ (.slice Ao49 t381.length co49 : Value).ownBlock ∧ some k_ ≠ (.slice Ao52 t385.length co52 : Value).ownBlock) (.slice Ao45 t377.length co45) t377) := ⟨by (with_reducible repeat (first | apply Kd.R_alloc | apply Kd.R_drewN | apply Kd.R_drew)); exact Kd.R_mono (Kd.R_far (p := ⟨gb373, 1, none⟩) (Kd.R_far (p := ⟨gb373, 0, none⟩) (Kd.R_far (p := ⟨gb372, 1, none⟩) (Kd.R_far (p := ⟨gb372, 0, none⟩) (Kd.R_types (Kd.R_types HO379.out BK372.out (by decide)) BK373.out (by decide)) (fun _ hk => hk.1.2) (.bool t380)) (fun _ hk => hk.1.2) (.slice Ao49 t381.length co49)) (fun _ hk => hk.2) (.bool t384)) (fun _ hk => hk.2) (.slice Ao52 t385.length co52)) (fun _ hk => by first | exact ⟨hk.1.1.1.1.1.1.1.2, ⟨hk.1.1.1.1.1.1.2, ⟨hk.1.1.1.1.1.2, ⟨hk.1.1.1.1.2, ⟨hk.1.1.1.2, hk.1.1.2⟩⟩⟩⟩⟩ | simp [hk])⟩
   have n5_ : Aside0 (Kd.R (Kd.int .u32) 47 ((((w47.setCell ⟨gb372, 0, none⟩ (.bool t380)).setCell ⟨gb372, 1, none⟩ (.slice Ao49 t381.length co49)).setCell ⟨gb373, 0, none⟩ (.bool t384)).setCell ⟨gb373, 1, none⟩ (.slice Ao52 t385.length co52)) w.heap.size (fun k_ => some k_ ≠ (.slice Ao25 t357.length co25 : Value).ownBlock ∧ some k_ ≠ (.slice Ao26 t358.length co26 : Value).ownBlock ∧ some k_ ≠ (.slice Ao34 t365.length co34 : Value).ownBlock ∧ some k_ ≠ (.slice Ao37 t369.length co37 : Value).ownBlock ∧ some k_ ≠ (.slice Ao45 t377.length co45 : Value).ownBlock ∧ some k_ ≠ (.slice Ao52 t385.length co52 : Value).ownBlock) (.slice Ao49 t381.length co49) t381) := ⟨by (with_reducible repeat (first | apply Kd.R_alloc | apply Kd.R_drewN | apply Kd.R_drew)); exact Kd.R_mono (Kd.R_far (p := ⟨gb373, 1, none⟩) (Kd.R_far (p := ⟨gb373, 0, none⟩) (Kd.R_far (p := ⟨gb372, 1, none⟩) (Kd.R_far (p := ⟨gb372, 0, none⟩) (Kd.R_types (Kd.R_types HO383.out BK372.out (by decide)) BK373.out (by decide)) (fun _ hk => hk.1.2) (.bool t380)) (fun _ hk => hk.1.2) (.slice Ao49 t381.length co49)) (fun _ hk => hk.2) (.bool t384)) (fun _ hk => hk.2) (.slice Ao52 t385.length co52)) (fun _ hk => by first | exact ⟨hk.1.1.1.1.1.1.1.2, ⟨hk.1.1.1.1.1.1.2, ⟨hk.1.1.1.1.1.2, ⟨hk.1.1.1.1.2, ⟨hk.1.1.1.2, hk.1.1.2⟩⟩⟩⟩⟩ | simp [hk])⟩
   have n6_ : Aside0 (Kd.R (Kd.int .u32) 47 ((((w47.setCell ⟨gb372, 0, none⟩ (.bool t380)).setCell ⟨gb372, 1, none⟩ (.slice Ao49 t381.length co49)).setCell ⟨gb373, 0, none⟩ (.bool t384)).setCell ⟨gb373, 1, none⟩ (.slice Ao52 t385.length co52)) w.heap.size (fun k_ => some k_ ≠ (.slice Ao25 t357.length co25 : Value).ownBlock ∧ some k_ ≠ (.slice Ao26 t358.length co26 : Value).ownBlock ∧ some k_ ≠ (.slice Ao34 t365.length co34 : Value).ownBlock ∧ some k_ ≠ (.slice Ao37 t369.length co37 : Value).ownBlock ∧ some k_ ≠ (.slice Ao45 t377.length co45 : Value).ownBlock ∧ some k_ ≠ (.slice Ao49 t381.length co49 : Value).ownBlock) (.slice Ao52 t385.length co52) t385) := ⟨by (with_reducible repeat (first | apply Kd.R_alloc | apply Kd.R_drewN | apply Kd.R_drew)); exact Kd.R_mono (Kd.R_far (p := ⟨gb373, 1, none⟩) (Kd.R_far (p := ⟨gb373, 0, none⟩) (Kd.R_far (p := ⟨gb372, 1, none⟩) (Kd.R_far (p := ⟨gb372, 0, none⟩) (Kd.R_types (Kd.R_types HO387.out BK372.out (by decide)) BK373.out (by decide)) (fun _ hk => hk.1.2) (.bool t380)) (fun _ hk => hk.1.2) (.slice Ao49 t381.length co49)) (fun _ hk => hk.2) (.bool t384)) (fun _ hk => hk.2) (.slice Ao52 t385.length co52)) (fun _ hk => by first | exact ⟨hk.1.1.1.1.1.1.1.2, ⟨hk.1.1.1.1.1.1.2, ⟨hk.1.1.1.1.1.2, ⟨hk.1.1.1.1.2, ⟨hk.1.1.1.2, hk.1.1.2⟩⟩⟩⟩⟩ | simp [hk])⟩
   have n7_ : Aside0 (((((w47.setCell ⟨gb372, 0, none⟩ (.bool t380)).setCell ⟨gb372, 1, none⟩ (.slice Ao49 t381.length co49)).setCell ⟨gb373, 0, none⟩ (.bool t384)).setCell ⟨gb373, 1, none⟩ (.slice Ao52 t385.length co52)).heap[gb353]? = some (.cells #[.bool a0_0, .slice A0_1 l0_1.length c0_1] 24 (0, 0))) := ⟨by refine kb_ ?_; refine bf_ NB353_373 ?_; refine bf_ NB353_373 ?_; refine bf_ NB353_372 ?_; refine bf_ NB353_372 ?_; exact BK353.out⟩
   have n8_ : Aside0 (((((w47.setCell ⟨gb372, 0, none⟩ (.bool t380)).setCell ⟨gb372, 1, none⟩ (.slice Ao49 t381.length co49)).setCell ⟨gb373, 0, none⟩ (.bool t384)).setCell ⟨gb373, 1, none⟩ (.slice Ao52 t385.length co52)).heap[gb354]? = some (.cells #[.bool a1_0, .slice A1_1 l1_1.length c1_1] 24 (0, 0))) := ⟨by refine kb_ ?_; refine bf_ NB354_373 ?_; refine bf_ NB354_373 ?_; refine bf_ NB354_372 ?_; refine bf_ NB354_372 ?_; exact BK354.out⟩
   have n9_ : Aside0 (((((w47.setCell ⟨gb372, 0, none⟩ (.bool t380)).setCell ⟨gb372, 1, none⟩ (.slice Ao49 t381.length co49)).setCell ⟨gb373, 0, none⟩ (.bool t384)).setCell ⟨gb373, 1, none⟩ (.slice Ao52 t385.length co52)).heap[gb355]? = some (.cells #[.bool false, .slice none 0 0] 24 (0, 0))) := ⟨by refine kb_ ?_; refine bf_ NB355_373 ?_; refine bf_ NB355_373 ?_; refine bf_ NB355_372 ?_; refine bf_ NB355_372 ?_; exact BK355.out⟩
   have n10_ : Aside0 (((((w47.setCell ⟨gb372, 0, none⟩ (.bool t380)).setCell ⟨gb372, 1, none⟩ (.slice Ao49 t381.length co49)).setCell ⟨gb373, 0, none⟩ (.bool t384)).setCell ⟨gb373, 1, none⟩ (.slice Ao52 t385.length co52)).heap[gb356]? = some (.cells #[.bool false, .slice none 0 0] 24 (0, 0))) := ⟨by refine kb_ ?_; refine bf_ NB356_373 ?_; refine bf_ NB356_373 ?_; refine bf_ NB356_372 ?_; refine bf_ NB356_372 ?_; exact BK356.out⟩
   have n11_ : Aside0 (((((w47.setCell ⟨gb372, 0, none⟩ (.bool t380)).setCell ⟨gb372, 1, none⟩ (.slice Ao49 t381.length co49)).setCell ⟨gb373, 0, none⟩ (.bool t384)).setCell ⟨gb373, 1, none⟩ (.slice Ao52 t385.length co52)).heap[gb372]? = some (.cells #[.bool t380, .slice Ao49 t381.length co49] 24 (0, 0))) := ⟨by refine kb_ ?_; refine bf_ NB372_373 ?_; refine bf_ NB372_373 ?_; refine bp_ #[.bool t380, .slice Ao34 t365.length co34] 1 ?_; refine bp_ #[.bool t364, .slice Ao34 t365.length co34] 0 ?_; exact BK372.out⟩
   have n12_ : Aside0 (((((w47.setCell ⟨gb372, 0, none⟩ (.bool t380)).setCell ⟨gb372, 1, none⟩ (.slice Ao49 t381.length co49)).setCell ⟨gb373, 0, none⟩ (.bool t384)).setCell ⟨gb373, 1, none⟩ (.slice Ao52 t385.length co52)).heap[gb373]? = some (.cells #[.bool t384, .slice Ao52 t385.length co52] 24 (0, 0))) := ⟨by refine kb_ ?_; refine bp_ #[.bool t384, .slice Ao37 t369.length co37] 1 ?_; refine bp_ #[.bool t368, .slice Ao37 t369.length co37] 0 ?_; refine bf_ NB373_372 ?_; refine bf_ NB373_372 ?_; exact BK373.out⟩
   have n13_ : Aside0 (Below w.heap.size w ((((w47.setCell ⟨gb372, 0, none⟩ (.bool t380)).setCell ⟨gb372, 1, none⟩ (.slice Ao49 t381.length co49)).setCell ⟨gb373, 0, none⟩ (.bool t384)).setCell ⟨gb373, 1, none⟩ (.slice Ao52 t385.length co52))) := ⟨bw_ HB.out⟩
   (try clear HO361)
   (try clear HO363)
   (try clear HO367)
   (try clear HO371)
   (try clear HO379)
   (try clear HO383)
   (try clear HO387)
   (try clear BK353)
   (try clear BK354)
   (try clear BK355)
   (try clear BK356)
   (try clear BK372)
   (try clear BK373)
   (try clear HB)
   generalize ((((w47.setCell ⟨gb372, 0, none⟩ (.bool t380)).setCell ⟨gb372, 1, none⟩ (.slice Ao49 t381.length co49)).setCell ⟨gb373, 0, none⟩ (.bool t384)).setCell ⟨gb373, 1, none⟩ (.slice Ao52 t385.length co52)) = w54 at n0_ n1_ n2_ n3_ n4_ n5_ n6_ n7_ n8_ n9_ n10_ n11_ n12_ n13_ ⊢
   have HO361 := n0_
   have HO363 := n1_
   have HO367 := n2_
   have HO371 := n3_
   have HO379 := n4_
   have HO383 := n5_
   have HO387 := n6_
   have BK353 := n7_
   have BK354 := n8_
   have BK355 := n9_
   have BK356 := n10_
   have BK372 := n11_
   have BK373 := n12_
   have HB := n13_
   clear n0_ n1_ n2_ n3_ n4_ n5_ n6_ n7_ n8_ n9_ n10_ n11_ n12_ n13_
   replace HO361 := Aside0.mk (Kd.R_drew HO361.out)
   replace HO363 := Aside0.mk (Kd.R_drew HO363.out)
   replace HO367 := Aside0.mk (Kd.R_drew HO367.out)
   replace HO371 := Aside0.mk (Kd.R_drew HO371.out)
   replace HO379 := Aside0.mk (Kd.R_drew HO379.out)
   replace HO383 := Aside0.mk (Kd.R_drew HO383.out)
   replace HO387 := Aside0.mk (Kd.R_drew HO387.out)
   replace BK353 := Aside0.mk (blk_drew BK353.out)
   replace BK354 := Aside0.mk (blk_drew BK354.out)
   replace BK355 := Aside0.mk (blk_drew BK355.out)
   replace BK356 := Aside0.mk (blk_drew BK356.out)
   replace BK372 := Aside0.mk (blk_drew BK372.out)
   replace BK373 := Aside0.mk (blk_drew BK373.out)
   replace HB := Aside0.mk (below_drew1 HB.out)
   refine start_ (n := 5) (S := fun w' => w'.cell? ⟨gb372, 0, none⟩ = some (.bool t380) ∧ w'.cell? ⟨gb372, 1, none⟩ = some (.slice Ao49 t381.length co49) ∧ w'.cell? ⟨gb373, 0, none⟩ = some (.bool t384) ∧ w'.cell? ⟨gb373, 1, none⟩ = some (.slice Ao52 t385.length co52)) (ds := []) #[false, false, false, false, false] (by kernel_rfl) rfl rfl ⟨(blk_cell BK372.out 0).trans rfl, (blk_cell BK372.out 1).trans rfl, (blk_cell BK373.out 0).trans rfl, (blk_cell BK373.out 1).trans rfl⟩ (fun hHeld => ?_)
   generalize w54.drew = w55 at HO361 HO363 HO367 HO371 HO379 HO383 HO387 BK353 BK354 BK355 BK356 BK372 BK373 HB hHeld ⊢
   refine take_ (i := 0) (N := some 48) (v := ?_) (a' := ?_) #[true, false, false, false, false] rfl rfl (by kernel_rfl) (fun _ _ _ h => h) (Or.inl ⟨by rfl, ?_⟩) hHeld ?_ ?_
   rotate_left
   ·rintro w' ⟨s0, s1, s2, s3⟩
    go_simp
    with_reducible rfl
   rotate_left
   ·exact pt_
   refine take_ (i := 1) (N := some 49) (v := ?_) (a' := ?_) #[true, true, false, false, false] rfl rfl (by kernel_rfl) (fun _ _ _ h => h) (Or.inl ⟨by rfl, ?_⟩) hHeld ?_ ?_
   rotate_left
   ·rintro w' ⟨s0, s1, s2, s3⟩
    go_simp
    with_reducible rfl
   rotate_left
   ·exact pt_
   refine one_ (i := 2) (N := none) #[true, true, true, false, false] rfl rfl (by kernel_rfl) (by decide) (fun K hK => ?_)
   have hs56 : w55.cell? ⟨gb355, 0, none⟩ = some (.bool false) := (blk_cell BK355.out 0).trans rfl
   have hfs56 := fz_ BK355 0
   have hns56_0 := NB353_355.out
   have hns56_1 := NB354_355.out
   have hns56_3 := NB356_355.out
   have hns56_4 := NB372_355.out
   have hns56_5 := NB373_355.out
   have hms56_0 := NB355_353.out
   have hms56_1 := NB355_354.out
   have hms56_3 := NB355_356.out
   have hms56_4 := NB355_372.out
   have hms56_5 := NB355_373.out
   have hs57 : w55.cell? ⟨gb355, 1, none⟩ = some (.slice none 0 0) := (blk_cell BK355.out 1).trans rfl
   have hfs57 := fz_ BK355 1
   have hns57_0 := NB353_355.out
   have hns57_1 := NB354_355.out
   have hns57_3 := NB356_355.out
   have hns57_4 := NB372_355.out
   have hns57_5 := NB373_355.out
   have hms57_0 := NB355_353.out
   have hms57_1 := NB355_354.out
   have hms57_3 := NB355_356.out
   have hms57_4 := NB355_372.out
   have hms57_5 := NB355_373.out
   refine skip_ (w1 := ?_) (by rfl) rfl ?_ ?_
   rotate_left
   ·go_simp
    rfl
   refine hK.out _ _ ⟨((cell_far (p := ⟨gb355, _, none⟩) NB372_355.out _).trans (((cell_far (p := ⟨gb355, _, none⟩) NB372_355.out _).trans (hHeld.1)))), ((cell_far (p := ⟨gb355, _, none⟩) NB372_355.out _).trans (((cell_far (p := ⟨gb355, _, none⟩) NB372_355.out _).trans (hHeld.2.1)))), ((cell_far (p := ⟨gb355, _, none⟩) NB373_355.out _).trans (((cell_far (p := ⟨gb355, _, none⟩) NB373_355.out _).trans (hHeld.2.2.1)))), ((cell_far (p := ⟨gb355, _, none⟩) NB373_355.out _).trans (((cell_far (p := ⟨gb355, _, none⟩) NB373_355.out _).trans (hHeld.2.2.2))))⟩ (fun hHeld => ?_)
   clear hK K
   refine one_ (i := 3) (N := none) #[true, true, true, true, false] rfl rfl (by kernel_rfl) (by decide) (fun K hK => ?_)
   have hs58 : w55.cell? ⟨gb356, 0, none⟩ = some (.bool false) := (blk_cell BK356.out 0).trans rfl
   have hfs58 := fz_ BK356 0
   have hns58_0 := NB353_356.out
   have hns58_1 := NB354_356.out
   have hns58_2 := NB355_356.out
   have hns58_4 := NB372_356.out
   have hns58_5 := NB373_356.out
   have hms58_0 := NB356_353.out
   have hms58_1 := NB356_354.out
   have hms58_2 := NB356_355.out
   have hms58_4 := NB356_372.out
   have hms58_5 := NB356_373.out
   have hs59 : w55.cell? ⟨gb356, 1, none⟩ = some (.slice none 0 0) := (blk_cell BK356.out 1).trans rfl
   have hfs59 := fz_ BK356 1
   have hns59_0 := NB353_356.out
   have hns59_1 := NB354_356.out
   have hns59_2 := NB355_356.out
   have hns59_4 := NB372_356.out
   have hns59_5 := NB373_356.out
   have hms59_0 := NB356_353.out
   have hms59_1 := NB356_354.out
   have hms59_2 := NB356_355.out
   have hms59_4 := NB356_372.out
   have hms59_5 := NB356_373.out
   refine skip_ (w1 := ?_) (by rfl) rfl ?_ ?_
   rotate_left
   ·go_simp
    rfl
   refine hK.out _ _ ⟨((cell_far (p := ⟨gb356, _, none⟩) NB372_356.out _).trans (((cell_far (p := ⟨gb356, _, none⟩) NB372_356.out _).trans (hHeld.1)))), ((cell_far (p := ⟨gb356, _, none⟩) NB372_356.out _).trans (((cell_far (p := ⟨gb356, _, none⟩) NB372_356.out _).trans (hHeld.2.1)))), ((cell_far (p := ⟨gb356, _, none⟩) NB373_356.out _).trans (((cell_far (p := ⟨gb356, _, none⟩) NB373_356.out _).trans (hHeld.2.2.1)))), ((cell_far (p := ⟨gb356, _, none⟩) NB373_356.out _).trans (((cell_far (p := ⟨gb356, _, none⟩) NB373_356.out _).trans (hHeld.2.2.2))))⟩ (fun hHeld => ?_)
   clear hK K
   refine pure_ (i := 4) (N := some 6) (v := ?_) (a' := ?_) #[true, true, true, true, true] rfl rfl (by kernel_rfl) (fun _ _ _ h => h) (Or.inl ⟨by rfl, ?_⟩) ?_ ?_
   rotate_left
   ·intro w'
    go_simp
    with_reducible rfl
   rotate_left
   ·exact pt_
   refine done_ (by kernel_rfl) ?_
   try go_wp2
   refine bodyPost_ret (results_list (rs := [.cell 4 24, .cell 5 24, .tmp 6]) rfl (by simp) (.cell gb355 24 #[.bool t380, .slice Ao49 t381.length co49] (0, 0) _ rfl (by refine kb_ ?_; refine bf_ NB355_356 ?_; refine bf_ NB355_356 ?_; refine bp_ #[.bool t380, .slice none 0 0] 1 ?_; refine bp_ #[.bool false, .slice none 0 0] 0 ?_; exact BK355.out) Try.underlying24 rfl (by kernel_rfl) (.cell gb356 24 #[.bool t384, .slice Ao52 t385.length co52] (0, 0) _ rfl (by refine kb_ ?_; refine bp_ #[.bool t384, .slice none 0 0] 1 ?_; refine bp_ #[.bool false, .slice none 0 0] 0 ?_; refine bf_ NB356_355 ?_; refine bf_ NB356_355 ?_; exact BK356.out) Try.underlying24 rfl (by kernel_rfl) (.tmp .nil)))) rfl ?_
   exact ⟨_, _, rf_, by (with_reducible repeat (first | apply Kd.R_alloc | apply Kd.R_drewN | apply Kd.R_drew)); exact Kd.R_mono (Kd.R_far (p := ⟨gb356, 1, none⟩) (Kd.R_far (p := ⟨gb356, 0, none⟩) (Kd.R_far (p := ⟨gb355, 1, none⟩) (Kd.R_far (p := ⟨gb355, 0, none⟩) (Kd.R_types (Kd.R_types HO383.out BK355.out (by decide)) BK356.out (by decide)) (fun _ hk => hk.1.2) (.bool t380)) (fun _ hk => hk.1.2) (.slice Ao49 t381.length co49)) (fun _ hk => hk.2) (.bool t384)) (fun _ hk => hk.2) (.slice Ao52 t385.length co52)) (fun _ hk => hk.1.1.2.2.2.2.2), by (with_reducible repeat (first | apply Kd.R_alloc | apply Kd.R_drewN | apply Kd.R_drew)); exact Kd.R_mono (Kd.R_far (p := ⟨gb356, 1, none⟩) (Kd.R_far (p := ⟨gb356, 0, none⟩) (Kd.R_far (p := ⟨gb355, 1, none⟩) (Kd.R_far (p := ⟨gb355, 0, none⟩) (Kd.R_types (Kd.R_types HO387.out BK355.out (by decide)) BK356.out (by decide)) (fun _ hk => hk.1.2) (.bool t380)) (fun _ hk => hk.1.2) (.slice Ao49 t381.length co49)) (fun _ hk => hk.2) (.bool t384)) (fun _ hk => hk.2) (.slice Ao52 t385.length co52)) (fun _ hk => hk.1.1.2.2.2.2.2), bw_ HB.out⟩
  ·rw [if_neg c9] at H
   have c9b0 : decide ((wrap64 (t374 * t375)) < 0) = false := decide_eq_false c9
   clear c9
   simp only [Option.some.injEq, Prod.mk.injEq] at H
   obtain ⟨rfl, rfl, rfl, rfl, rfl⟩ := H
   go_enter Try.func11, Try.ntmps11
   try go_wp2_with (first | ((with_reducible refine gate_dst (N := 2) rfl ?_); refine bx_ 2 #[.bool a0_0, .slice A0_1 l0_1.length c0_1] 24 ?_; intro gb353 hg w60 hbox hb; have BK353 := Aside0.mk (hbox); have GW353 := ge_ hg HB; have GE353 := ge_ hg HB; replace HB := bq_ HB hb; clear hb hbox hg) | ((with_reducible refine gate_dst (N := 3) rfl ?_); refine bx_ 3 #[.bool a1_0, .slice A1_1 l1_1.length c1_1] 24 ?_; intro gb354 hg w61 hbox hb; have BK354 := Aside0.mk (hbox); have GW354 := ge_ hg HB; have GE354 := ge_ hg HB; have NB353_354 := nb_ hg BK353; have NB354_353 := nc_ hg BK353; replace BK353 := kq_ BK353 hb; replace HB := bq_ HB hb; clear hb hbox hg) | ((with_reducible refine gate_dst (N := 4) rfl ?_); refine bx_ 4 #[.bool false, .slice none 0 0] 24 ?_; intro gb355 hg w62 hbox hb; have BK355 := Aside0.mk (hbox); have GW355 := ge_ hg HB; have GE355 := ge_ hg HB; have NB353_355 := nb_ hg BK353; have NB355_353 := nc_ hg BK353; have NB354_355 := nb_ hg BK354; have NB355_354 := nc_ hg BK354; replace BK353 := kq_ BK353 hb; replace BK354 := kq_ BK354 hb; replace HB := bq_ HB hb; clear hb hbox hg) | ((with_reducible refine gate_dst (N := 5) rfl ?_); refine bx_ 5 #[.bool false, .slice none 0 0] 24 ?_; intro gb356 hg w63 hbox hb; have BK356 := Aside0.mk (hbox); have GW356 := ge_ hg HB; have GE356 := ge_ hg HB; have NB353_356 := nb_ hg BK353; have NB356_353 := nc_ hg BK353; have NB354_356 := nb_ hg BK354; have NB356_354 := nc_ hg BK354; have NB355_356 := nb_ hg BK355; have NB356_355 := nc_ hg BK355; replace BK353 := kq_ BK353 hb; replace BK354 := kq_ BK354 hb; replace BK355 := kq_ BK355 hb; replace HB := bq_ HB hb; clear hb hbox hg; have hnb64 := NB353_354.out; have hnc64 := NB354_353.out; have hnb65 := NB353_355.out; have hnc65 := NB355_353.out; have hnb66 := NB353_356.out; have hnc66 := NB356_353.out; obtain ⟨hcz67_0, hcz67_1, hfz67_0, hfz67_1⟩ := c2_ BK353; have hnb68 := NB354_355.out; have hnc68 := NB355_354.out; have hnb69 := NB354_356.out; have hnc69 := NB356_354.out; obtain ⟨hcz70_0, hcz70_1, hfz70_0, hfz70_1⟩ := c2_ BK354) | ((with_reducible refine gate_callee (f := 35) rfl ?_); refine gl_ (some 17) Try.func35 #[.slice A0_1 l0_1.length c0_1, .slice A1_1 l1_1.length c1_1] ?_; (with_reducible refine (nat_Div.calls k _ _ l0_1 _ _ l1_1 t357 t358 true _ ?side1 ?side2 ?side3 ?side4 A3.out).mono ?_); (case side1 => exact kc_ (Kd.C_below HR0_1.out HB.out)); (case side2 => exact HC0_1.out); (case side3 => exact kc_ (Kd.C_below HR1_1.out HB.out)); (case side4 => exact HC1_1.out); rintro e w71 ⟨v360, v362, rfl, ho0, ho1, hb⟩; refine ⟨_, rfl, ?_⟩; have HO361 := Aside0.mk (Kd.R_lower ho0 (below_size (bw_ HB.out))); have HO363 := Aside0.mk (Kd.R_lower ho1 (below_size (bw_ HB.out))); replace BK353 := kq_ BK353 hb; replace BK354 := kq_ BK354 hb; replace BK355 := kq_ BK355 hb; replace BK356 := kq_ BK356 hb; replace HB := bq_ HB hb; (try clear hb); (try clear hb2); (try clear hk); (try clear hi); (try clear ho0); (try clear ho1); obtain ⟨Ao72, co72, eo72⟩ := Kd.R_slice HO361.out; subst eo72; obtain ⟨Ao73, co73, eo73⟩ := Kd.R_slice HO363.out; subst eo73))
   replace HO361 := Aside0.mk (Kd.R_drew HO361.out)
   replace HO363 := Aside0.mk (Kd.R_drew HO363.out)
   replace BK353 := Aside0.mk (blk_drew BK353.out)
   replace BK354 := Aside0.mk (blk_drew BK354.out)
   replace BK355 := Aside0.mk (blk_drew BK355.out)
   replace BK356 := Aside0.mk (blk_drew BK356.out)
   replace HB := Aside0.mk (below_drew1 HB.out)
   refine start_ (n := 15) (S := fun w' => w'.cell? ⟨gb353, 0, none⟩ = some (.bool a0_0) ∧ w'.cell? ⟨gb353, 1, none⟩ = some (.slice A0_1 l0_1.length c0_1) ∧ w'.cell? ⟨gb354, 0, none⟩ = some (.bool a1_0) ∧ w'.cell? ⟨gb354, 1, none⟩ = some (.slice A1_1 l1_1.length c1_1)) (ds := []) #[false, false, false, false, false, false, false, false, false, false, false, false, false, false, false] (by kernel_rfl) rfl rfl ⟨(blk_cell BK353.out 0).trans rfl, (blk_cell BK353.out 1).trans rfl, (blk_cell BK354.out 0).trans rfl, (blk_cell BK354.out 1).trans rfl⟩ (fun hHeld => ?_); refine with_tabW whole_Div.tab4 whole_Div.bits4 (fun HT_ HW_ => ?_)
   generalize w71.drew = w74 at HO361 HO363 BK353 BK354 BK355 BK356 HB hHeld ⊢
   refine pure_ (i := 0) (N := some 25) (v := ?_) (a' := ?_) #[true, false, false, false, false, false, false, false, false, false, false, false, false, false, false] rfl rfl (any_of HT_.out (by kernel_rfl)) (fun _ _ _ h => h) (Or.inl ⟨by rfl, ?_⟩) ?_ ?_
   rotate_left
   ·intro w'
    go_simp
    with_reducible rfl
   rotate_left
   ·exact pt_
   refine pure_ (i := 2) (N := some 27) (v := ?_) (a' := ?_) #[true, false, true, false, false, false, false, false, false, false, false, false, false, false, false] rfl rfl (any_of HT_.out (by kernel_rfl)) (fun _ _ _ h => h) (Or.inl ⟨by rfl, ?_⟩) ?_ ?_
   rotate_left
   ·intro w'
    go_simp
    with_reducible rfl
   rotate_left
   ·exact pt_
   refine pure_ (i := 5) (N := some 30) (v := ?_) (a' := ?_) #[true, false, true, false, false, true, false, false, false, false, false, false, false, false, false] rfl rfl (any_of HT_.out (by kernel_rfl)) (fun _ _ _ h => h) (Or.inl ⟨by rfl, ?_⟩) ?_ ?_
   rotate_left
   ·intro w'
    go_simp
    with_reducible rfl
   rotate_left
   ·exact pt_
   refine pure_ (i := 7) (N := some 32) (v := ?_) (a' := ?_) #[true, false, true, false, false, true, false, true, false, false, false, false, false, false, false] rfl rfl (any_of HT_.out (by kernel_rfl)) (fun _ _ _ h => h) (Or.inl ⟨by rfl, ?_⟩) ?_ ?_
   rotate_left
   ·intro w'
    go_simp
    with_reducible rfl
   rotate_left
   ·exact pt_
   refine pure_ (i := 9) (N := some 34) (v := ?_) (a' := ?_) #[true, false, true, false, false, true, false, true, false, true, false, false, false, false, false] rfl rfl (any_of HT_.out (by kernel_rfl)) (fun _ _ _ h => h) (Or.inl ⟨by rfl, ?_⟩) ?_ ?_
   rotate_left
   ·intro w'
    go_simp
    with_reducible rfl
   rotate_left
   ·exact pt_
   refine take_ (i := 1) (N := some 26) (v := ?_) (a' := ?_) #[true, true, true, false, false, true, false, true, false, true, false, false, false, false, false] rfl rfl (take_ofW HT_.out HW_.out (by kernel_rfl)) (fun _ _ _ h => h) (Or.inl ⟨by rfl, ?_⟩) hHeld ?_ ?_
   rotate_left
   ·rintro w' ⟨s0, s1, s2, s3⟩
    go_simp
    with_reducible rfl
   rotate_left
   ·exact pt_
   refine take_ (i := 3) (N := some 28) (v := ?_) (a' := ?_) #[true, true, true, true, false, true, false, true, false, true, false, false, false, false, false] rfl rfl (take_ofW HT_.out HW_.out (by kernel_rfl)) (fun _ _ _ h => h) (Or.inl ⟨by rfl, ?_⟩) hHeld ?_ ?_
   rotate_left
   ·rintro w' ⟨s0, s1, s2, s3⟩
    go_simp
    with_reducible rfl
   rotate_left
   ·exact pt_
   refine pure_ (i := 4) (N := some 29) (v := ?_) (a' := ?_) #[true, true, true, true, true, true, false, true, false, true, false, false, false, false, false] rfl rfl (any_of HT_.out (by kernel_rfl)) (fun _ _ _ h => h) (Or.inl ⟨by rfl, ?_⟩) ?_ ?_
   rotate_left
   ·intro w'
    go_simp
    with_reducible rfl
   rotate_left
   ·exact pt_
   refine take_ (i := 8) (N := some 33) (v := ?_) (a' := ?_) #[true, true, true, true, true, true, false, true, true, true, false, false, false, false, false] rfl rfl (take_ofW HT_.out HW_.out (by kernel_rfl)) (fun _ _ _ h => h) (Or.inl ⟨by rfl, ?_⟩) hHeld ?_ ?_
   rotate_left
   ·rintro w' ⟨s0, s1, s2, s3⟩
    go_simp
    with_reducible rfl
   rotate_left
   ·exact pt_
   refine join_ (σ := Value × Value × Nat × Nat) 2 #[true, true, true, true, true, true, true, true, true, true, true, true, true, false, false] (fun s_ => [(31, .agg #[.bool t364, s_.1]), (35, .agg #[.bool t368, s_.2.1]), (10, .pointer (some ⟨s_.2.2.1, 0, none⟩)), (11, .pointer (some ⟨s_.2.2.2, 0, none⟩))]) (fun s_ w' => (w'.cell? ⟨gb353, 0, none⟩ = some (.bool a0_0) ∧ w'.cell? ⟨gb353, 1, none⟩ = some (.slice A0_1 l0_1.length c0_1) ∧ w'.cell? ⟨gb354, 0, none⟩ = some (.bool a1_0) ∧ w'.cell? ⟨gb354, 1, none⟩ = some (.slice A1_1 l1_1.length c1_1)) ∧ (Kd.R (Kd.int .u32) 47 w' w.heap.size (fun k_ => some k_ ≠ (.slice Ao73 t358.length co73 : Value).ownBlock ∧ some k_ ≠ (s_.1 : Value).ownBlock ∧ some k_ ≠ (s_.2.1 : Value).ownBlock) (.slice Ao72 t357.length co72) t357) ∧ (Kd.R (Kd.int .u32) 47 w' w.heap.size (fun k_ => some k_ ≠ (.slice Ao72 t357.length co72 : Value).ownBlock ∧ some k_ ≠ (s_.1 : Value).ownBlock ∧ some k_ ≠ (s_.2.1 : Value).ownBlock) (.slice Ao73 t358.length co73) t358) ∧ (Kd.R (Kd.int .u32) 47 w' w.heap.size (fun k_ => some k_ ≠ (.slice Ao72 t357.length co72 : Value).ownBlock ∧ some k_ ≠ (.slice Ao73 t358.length co73 : Value).ownBlock ∧ some k_ ≠ (s_.2.1 : Value).ownBlock) s_.1 t365) ∧ (Kd.R (Kd.int .u32) 47 w' w.heap.size (fun k_ => some k_ ≠ (.slice Ao72 t357.length co72 : Value).ownBlock ∧ some k_ ≠ (.slice Ao73 t358.length co73 : Value).ownBlock ∧ some k_ ≠ (s_.1 : Value).ownBlock) s_.2.1 t369) ∧ (w'.heap[gb353]? = some (.cells #[.bool a0_0, .slice A0_1 l0_1.length c0_1] 24 (0, 0))) ∧ (w'.heap[gb354]? = some (.cells #[.bool a1_0, .slice A1_1 l1_1.length c1_1] 24 (0, 0))) ∧ (w'.heap[gb355]? = some (.cells #[.bool false, .slice none 0 0] 24 (0, 0))) ∧ (w'.heap[gb356]? = some (.cells #[.bool false, .slice none 0 0] 24 (0, 0))) ∧ (w'.heap[s_.2.2.1]? = some (.cells #[.bool false, .slice none 0 0] 24 (0, 0))) ∧ (w'.heap[s_.2.2.2]? = some (.cells #[.bool false, .slice none 0 0] 24 (0, 0))) ∧ (w.heap.size ≤ s_.2.2.1) ∧ (w.heap.size ≤ s_.2.2.1) ∧ (gb353 ≠ s_.2.2.1) ∧ (s_.2.2.1 ≠ gb353) ∧ (gb354 ≠ s_.2.2.1) ∧ (s_.2.2.1 ≠ gb354) ∧ (gb355 ≠ s_.2.2.1) ∧ (s_.2.2.1 ≠ gb355) ∧ (gb356 ≠ s_.2.2.1) ∧ (s_.2.2.1 ≠ gb356) ∧ (s_.2.2.2 ≠ s_.2.2.1) ∧ (s_.2.2.1 ≠ s_.2.2.2) ∧ (w.heap.size ≤ s_.2.2.2) ∧ (w.heap.size ≤ s_.2.2.2) ∧ (gb353 ≠ s_.2.2.2) ∧ (s_.2.2.2 ≠ gb353) ∧ (gb354 ≠ s_.2.2.2) ∧ (s_.2.2.2 ≠ gb354) ∧ (gb355 ≠ s_.2.2.2) ∧ (s_.2.2.2 ≠ gb355) ∧ (gb356 ≠ s_.2.2.2) ∧ (s_.2.2.2 ≠ gb356) ∧ (Below w.heap.size w w')) ?_ ?_
   rotate_left
   ·intro hJ6_10_11_12
    refine join_ (σ := Value × Value × Nat) 3 #[true, true, true, true, true, true, true, true, true, true, true, true, false, false, false] (fun s_ => [(31, .agg #[.bool t364, s_.1]), (35, .agg #[.bool t368, s_.2.1]), (10, .pointer (some ⟨s_.2.2, 0, none⟩))]) (fun s_ w' => (w'.cell? ⟨gb353, 0, none⟩ = some (.bool a0_0) ∧ w'.cell? ⟨gb353, 1, none⟩ = some (.slice A0_1 l0_1.length c0_1) ∧ w'.cell? ⟨gb354, 0, none⟩ = some (.bool a1_0) ∧ w'.cell? ⟨gb354, 1, none⟩ = some (.slice A1_1 l1_1.length c1_1)) ∧ (Kd.R (Kd.int .u32) 47 w' w.heap.size (fun k_ => some k_ ≠ (.slice Ao73 t358.length co73 : Value).ownBlock ∧ some k_ ≠ (s_.1 : Value).ownBlock ∧ some k_ ≠ (s_.2.1 : Value).ownBlock) (.slice Ao72 t357.length co72) t357) ∧ (Kd.R (Kd.int .u32) 47 w' w.heap.size (fun k_ => some k_ ≠ (.slice Ao72 t357.length co72 : Value).ownBlock ∧ some k_ ≠ (s_.1 : Value).ownBlock ∧ some k_ ≠ (s_.2.1 : Value).ownBlock) (.slice Ao73 t358.length co73) t358) ∧ (Kd.R (Kd.int .u32) 47 w' w.heap.size (fun k_ => some k_ ≠ (.slice Ao72 t357.length co72 : Value).ownBlock ∧ some k_ ≠ (.slice Ao73 t358.length co73 : Value).ownBlock ∧ some k_ ≠ (s_.2.1 : Value).ownBlock) s_.1 t365) ∧ (Kd.R (Kd.int .u32) 47 w' w.heap.size (fun k_ => some k_ ≠ (.slice Ao72 t357.length co72 : Value).ownBlock ∧ some k_ ≠ (.slice Ao73 t358.length co73 : Value).ownBlock ∧ some k_ ≠ (s_.1 : Value).ownBlock) s_.2.1 t369) ∧ (w'.heap[gb353]? = some (.cells #[.bool a0_0, .slice A0_1 l0_1.length c0_1] 24 (0, 0))) ∧ (w'.heap[gb354]? = some (.cells #[.bool a1_0, .slice A1_1 l1_1.length c1_1] 24 (0, 0))) ∧ (w'.heap[gb355]? = some (.cells #[.bool false, .slice none 0 0] 24 (0, 0))) ∧ (w'.heap[gb356]? = some (.cells #[.bool false, .slice none 0 0] 24 (0, 0))) ∧ (w'.heap[s_.2.2]? = some (.cells #[.bool false, .slice none 0 0] 24 (0, 0))) ∧ (w.heap.size ≤ s_.2.2) ∧ (w.heap.size ≤ s_.2.2) ∧ (gb353 ≠ s_.2.2) ∧ (s_.2.2 ≠ gb353) ∧ (gb354 ≠ s_.2.2) ∧ (s_.2.2 ≠ gb354) ∧ (gb355 ≠ s_.2.2) ∧ (s_.2.2 ≠ gb355) ∧ (gb356 ≠ s_.2.2) ∧ (s_.2.2 ≠ gb356) ∧ (Below w.heap.size w w')) ?_ ?_
    rotate_left
    ·intro hJ6_10_11
     refine join_ (σ := Value × Value × Nat) 3 #[true, true, true, true, true, true, true, true, true, true, true, false, true, false, false] (fun s_ => [(31, .agg #[.bool t364, s_.1]), (35, .agg #[.bool t368, s_.2.1]), (11, .pointer (some ⟨s_.2.2, 0, none⟩))]) (fun s_ w' => (w'.cell? ⟨gb353, 0, none⟩ = some (.bool a0_0) ∧ w'.cell? ⟨gb353, 1, none⟩ = some (.slice A0_1 l0_1.length c0_1) ∧ w'.cell? ⟨gb354, 0, none⟩ = some (.bool a1_0) ∧ w'.cell? ⟨gb354, 1, none⟩ = some (.slice A1_1 l1_1.length c1_1)) ∧ (Kd.R (Kd.int .u32) 47 w' w.heap.size (fun k_ => some k_ ≠ (.slice Ao73 t358.length co73 : Value).ownBlock ∧ some k_ ≠ (s_.1 : Value).ownBlock ∧ some k_ ≠ (s_.2.1 : Value).ownBlock) (.slice Ao72 t357.length co72) t357) ∧ (Kd.R (Kd.int .u32) 47 w' w.heap.size (fun k_ => some k_ ≠ (.slice Ao72 t357.length co72 : Value).ownBlock ∧ some k_ ≠ (s_.1 : Value).ownBlock ∧ some k_ ≠ (s_.2.1 : Value).ownBlock) (.slice Ao73 t358.length co73) t358) ∧ (Kd.R (Kd.int .u32) 47 w' w.heap.size (fun k_ => some k_ ≠ (.slice Ao72 t357.length co72 : Value).ownBlock ∧ some k_ ≠ (.slice Ao73 t358.length co73 : Value).ownBlock ∧ some k_ ≠ (s_.2.1 : Value).ownBlock) s_.1 t365) ∧ (Kd.R (Kd.int .u32) 47 w' w.heap.size (fun k_ => some k_ ≠ (.slice Ao72 t357.length co72 : Value).ownBlock ∧ some k_ ≠ (.slice Ao73 t358.length co73 : Value).ownBlock ∧ some k_ ≠ (s_.1 : Value).ownBlock) s_.2.1 t369) ∧ (w'.heap[gb353]? = some (.cells #[.bool a0_0, .slice A0_1 l0_1.length c0_1] 24 (0, 0))) ∧ (w'.heap[gb354]? = some (.cells #[.bool a1_0, .slice A1_1 l1_1.length c1_1] 24 (0, 0))) ∧ (w'.heap[gb355]? = some (.cells #[.bool false, .slice none 0 0] 24 (0, 0))) ∧ (w'.heap[gb356]? = some (.cells #[.bool false, .slice none 0 0] 24 (0, 0))) ∧ (w'.heap[s_.2.2]? = some (.cells #[.bool false, .slice none 0 0] 24 (0, 0))) ∧ (w.heap.size ≤ s_.2.2) ∧ (w.heap.size ≤ s_.2.2) ∧ (gb353 ≠ s_.2.2) ∧ (s_.2.2 ≠ gb353) ∧ (gb354 ≠ s_.2.2) ∧ (s_.2.2 ≠ gb354) ∧ (gb355 ≠ s_.2.2) ∧ (s_.2.2 ≠ gb355) ∧ (gb356 ≠ s_.2.2) ∧ (s_.2.2 ≠ gb356) ∧ (Below w.heap.size w w')) ?_ ?_
     rotate_left
     ·intro hJ6_10_12
      refine join_ (σ := Value × Nat × Nat) 3 #[true, true, true, true, true, true, true, true, true, true, false, true, true, false, false] (fun s_ => [(31, .agg #[.bool t364, s_.1]), (10, .pointer (some ⟨s_.2.1, 0, none⟩)), (11, .pointer (some ⟨s_.2.2, 0, none⟩))]) (fun s_ w' => (w'.cell? ⟨gb353, 0, none⟩ = some (.bool a0_0) ∧ w'.cell? ⟨gb353, 1, none⟩ = some (.slice A0_1 l0_1.length c0_1) ∧ w'.cell? ⟨gb354, 0, none⟩ = some (.bool a1_0) ∧ w'.cell? ⟨gb354, 1, none⟩ = some (.slice A1_1 l1_1.length c1_1)) ∧ (Kd.R (Kd.int .u32) 47 w' w.heap.size (fun k_ => some k_ ≠ (.slice Ao73 t358.length co73 : Value).ownBlock ∧ some k_ ≠ (s_.1 : Value).ownBlock) (.slice Ao72 t357.length co72) t357) ∧ (Kd.R (Kd.int .u32) 47 w' w.heap.size (fun k_ => some k_ ≠ (.slice Ao72 t357.length co72 : Value).ownBlock ∧ some k_ ≠ (s_.1 : Value).ownBlock) (.slice Ao73 t358.length co73) t358) ∧ (Kd.R (Kd.int .u32) 47 w' w.heap.size (fun k_ => some k_ ≠ (.slice Ao72 t357.length co72 : Value).ownBlock ∧ some k_ ≠ (.slice Ao73 t358.length co73 : Value).ownBlock) s_.1 t365) ∧ (w'.heap[gb353]? = some (.cells #[.bool a0_0, .slice A0_1 l0_1.length c0_1] 24 (0, 0))) ∧ (w'.heap[gb354]? = some (.cells #[.bool a1_0, .slice A1_1 l1_1.length c1_1] 24 (0, 0))) ∧ (w'.heap[gb355]? = some (.cells #[.bool false, .slice none 0 0] 24 (0, 0))) ∧ (w'.heap[gb356]? = some (.cells #[.bool false, .slice none 0 0] 24 (0, 0))) ∧ (w'.heap[s_.2.1]? = some (.cells #[.bool false, .slice none 0 0] 24 (0, 0))) ∧ (w'.heap[s_.2.2]? = some (.cells #[.bool false, .slice none 0 0] 24 (0, 0))) ∧ (w.heap.size ≤ s_.2.1) ∧ (w.heap.size ≤ s_.2.1) ∧ (gb353 ≠ s_.2.1) ∧ (s_.2.1 ≠ gb353) ∧ (gb354 ≠ s_.2.1) ∧ (s_.2.1 ≠ gb354) ∧ (gb355 ≠ s_.2.1) ∧ (s_.2.1 ≠ gb355) ∧ (gb356 ≠ s_.2.1) ∧ (s_.2.1 ≠ gb356) ∧ (s_.2.2 ≠ s_.2.1) ∧ (s_.2.1 ≠ s_.2.2) ∧ (w.heap.size ≤ s_.2.2) ∧ (w.heap.size ≤ s_.2.2) ∧ (gb353 ≠ s_.2.2) ∧ (s_.2.2 ≠ gb353) ∧ (gb354 ≠ s_.2.2) ∧ (s_.2.2 ≠ gb354) ∧ (gb355 ≠ s_.2.2) ∧ (s_.2.2 ≠ gb355) ∧ (gb356 ≠ s_.2.2) ∧ (s_.2.2 ≠ gb356) ∧ (Below w.heap.size w w')) ?_ ?_
      rotate_left
      ·intro hJ6_11_12
       refine join_ (σ := Value × Value) 4 #[true, true, true, true, true, true, true, true, true, true, true, false, false, false, false] (fun s_ => [(31, .agg #[.bool t364, s_.1]), (35, .agg #[.bool t368, s_.2])]) (fun s_ w' => (w'.cell? ⟨gb353, 0, none⟩ = some (.bool a0_0) ∧ w'.cell? ⟨gb353, 1, none⟩ = some (.slice A0_1 l0_1.length c0_1) ∧ w'.cell? ⟨gb354, 0, none⟩ = some (.bool a1_0) ∧ w'.cell? ⟨gb354, 1, none⟩ = some (.slice A1_1 l1_1.length c1_1)) ∧ (Kd.R (Kd.int .u32) 47 w' w.heap.size (fun k_ => some k_ ≠ (.slice Ao73 t358.length co73 : Value).ownBlock ∧ some k_ ≠ (s_.1 : Value).ownBlock ∧ some k_ ≠ (s_.2 : Value).ownBlock) (.slice Ao72 t357.length co72) t357) ∧ (Kd.R (Kd.int .u32) 47 w' w.heap.size (fun k_ => some k_ ≠ (.slice Ao72 t357.length co72 : Value).ownBlock ∧ some k_ ≠ (s_.1 : Value).ownBlock ∧ some k_ ≠ (s_.2 : Value).ownBlock) (.slice Ao73 t358.length co73) t358) ∧ (Kd.R (Kd.int .u32) 47 w' w.heap.size (fun k_ => some k_ ≠ (.slice Ao72 t357.length co72 : Value).ownBlock ∧ some k_ ≠ (.slice Ao73 t358.length co73 : Value).ownBlock ∧ some k_ ≠ (s_.2 : Value).ownBlock) s_.1 t365) ∧ (Kd.R (Kd.int .u32) 47 w' w.heap.size (fun k_ => some k_ ≠ (.slice Ao72 t357.length co72 : Value).ownBlock ∧ some k_ ≠ (.slice Ao73 t358.length co73 : Value).ownBlock ∧ some k_ ≠ (s_.1 : Value).ownBlock) s_.2 t369) ∧ (w'.heap[gb353]? = some (.cells #[.bool a0_0, .slice A0_1 l0_1.length c0_1] 24 (0, 0))) ∧ (w'.heap[gb354]? = some (.cells #[.bool a1_0, .slice A1_1 l1_1.length c1_1] 24 (0, 0))) ∧ (w'.heap[gb355]? = some (.cells #[.bool false, .slice none 0 0] 24 (0, 0))) ∧ (w'.heap[gb356]? = some (.cells #[.bool false, .slice none 0 0] 24 (0, 0))) ∧ (Below w.heap.size w w')) ?_ ?_
       rotate_left
       ·intro hJ6_10
        refine join_ (σ := Value × Nat) 4 #[true, true, true, true, true, true, true, true, true, true, false, true, false, false, false] (fun s_ => [(31, .agg #[.bool t364, s_.1]), (10, .pointer (some ⟨s_.2, 0, none⟩))]) (fun s_ w' => (w'.cell? ⟨gb353, 0, none⟩ = some (.bool a0_0) ∧ w'.cell? ⟨gb353, 1, none⟩ = some (.slice A0_1 l0_1.length c0_1) ∧ w'.cell? ⟨gb354, 0, none⟩ = some (.bool a1_0) ∧ w'.cell? ⟨gb354, 1, none⟩ = some (.slice A1_1 l1_1.length c1_1)) ∧ (Kd.R (Kd.int .u32) 47 w' w.heap.size (fun k_ => some k_ ≠ (.slice Ao73 t358.length co73 : Value).ownBlock ∧ some k_ ≠ (s_.1 : Value).ownBlock) (.slice Ao72 t357.length co72) t357) ∧ (Kd.R (Kd.int .u32) 47 w' w.heap.size (fun k_ => some k_ ≠ (.slice Ao72 t357.length co72 : Value).ownBlock ∧ some k_ ≠ (s_.1 : Value).ownBlock) (.slice Ao73 t358.length co73) t358) ∧ (Kd.R (Kd.int .u32) 47 w' w.heap.size (fun k_ => some k_ ≠ (.slice Ao72 t357.length co72 : Value).ownBlock ∧ some k_ ≠ (.slice Ao73 t358.length co73 : Value).ownBlock) s_.1 t365) ∧ (w'.heap[gb353]? = some (.cells #[.bool a0_0, .slice A0_1 l0_1.length c0_1] 24 (0, 0))) ∧ (w'.heap[gb354]? = some (.cells #[.bool a1_0, .slice A1_1 l1_1.length c1_1] 24 (0, 0))) ∧ (w'.heap[gb355]? = some (.cells #[.bool false, .slice none 0 0] 24 (0, 0))) ∧ (w'.heap[gb356]? = some (.cells #[.bool false, .slice none 0 0] 24 (0, 0))) ∧ (w'.heap[s_.2]? = some (.cells #[.bool false, .slice none 0 0] 24 (0, 0))) ∧ (w.heap.size ≤ s_.2) ∧ (w.heap.size ≤ s_.2) ∧ (gb353 ≠ s_.2) ∧ (s_.2 ≠ gb353) ∧ (gb354 ≠ s_.2) ∧ (s_.2 ≠ gb354) ∧ (gb355 ≠ s_.2) ∧ (s_.2 ≠ gb355) ∧ (gb356 ≠ s_.2) ∧ (s_.2 ≠ gb356) ∧ (Below w.heap.size w w')) ?_ ?_
        rotate_left
        ·intro hJ6_11
         refine join_ (σ := Value × Nat) 4 #[true, true, true, true, true, true, true, true, true, true, false, false, true, false, false] (fun s_ => [(31, .agg #[.bool t364, s_.1]), (11, .pointer (some ⟨s_.2, 0, none⟩))]) (fun s_ w' => (w'.cell? ⟨gb353, 0, none⟩ = some (.bool a0_0) ∧ w'.cell? ⟨gb353, 1, none⟩ = some (.slice A0_1 l0_1.length c0_1) ∧ w'.cell? ⟨gb354, 0, none⟩ = some (.bool a1_0) ∧ w'.cell? ⟨gb354, 1, none⟩ = some (.slice A1_1 l1_1.length c1_1)) ∧ (Kd.R (Kd.int .u32) 47 w' w.heap.size (fun k_ => some k_ ≠ (.slice Ao73 t358.length co73 : Value).ownBlock ∧ some k_ ≠ (s_.1 : Value).ownBlock) (.slice Ao72 t357.length co72) t357) ∧ (Kd.R (Kd.int .u32) 47 w' w.heap.size (fun k_ => some k_ ≠ (.slice Ao72 t357.length co72 : Value).ownBlock ∧ some k_ ≠ (s_.1 : Value).ownBlock) (.slice Ao73 t358.length co73) t358) ∧ (Kd.R (Kd.int .u32) 47 w' w.heap.size (fun k_ => some k_ ≠ (.slice Ao72 t357.length co72 : Value).ownBlock ∧ some k_ ≠ (.slice Ao73 t358.length co73 : Value).ownBlock) s_.1 t365) ∧ (w'.heap[gb353]? = some (.cells #[.bool a0_0, .slice A0_1 l0_1.length c0_1] 24 (0, 0))) ∧ (w'.heap[gb354]? = some (.cells #[.bool a1_0, .slice A1_1 l1_1.length c1_1] 24 (0, 0))) ∧ (w'.heap[gb355]? = some (.cells #[.bool false, .slice none 0 0] 24 (0, 0))) ∧ (w'.heap[gb356]? = some (.cells #[.bool false, .slice none 0 0] 24 (0, 0))) ∧ (w'.heap[s_.2]? = some (.cells #[.bool false, .slice none 0 0] 24 (0, 0))) ∧ (w.heap.size ≤ s_.2) ∧ (w.heap.size ≤ s_.2) ∧ (gb353 ≠ s_.2) ∧ (s_.2 ≠ gb353) ∧ (gb354 ≠ s_.2) ∧ (s_.2 ≠ gb354) ∧ (gb355 ≠ s_.2) ∧ (s_.2 ≠ gb355) ∧ (gb356 ≠ s_.2) ∧ (s_.2 ≠ gb356) ∧ (Below w.heap.size w w')) ?_ ?_
         rotate_left
         ·intro hJ6_12
          refine join_ (σ := Nat × Nat) 4 #[true, true, true, true, true, true, false, true, true, true, false, true, true, false, false] (fun s_ => [(10, .pointer (some ⟨s_.1, 0, none⟩)), (11, .pointer (some ⟨s_.2, 0, none⟩))]) (fun s_ w' => (w'.cell? ⟨gb353, 0, none⟩ = some (.bool a0_0) ∧ w'.cell? ⟨gb353, 1, none⟩ = some (.slice A0_1 l0_1.length c0_1) ∧ w'.cell? ⟨gb354, 0, none⟩ = some (.bool a1_0) ∧ w'.cell? ⟨gb354, 1, none⟩ = some (.slice A1_1 l1_1.length c1_1)) ∧ (Kd.R (Kd.int .u32) 47 w' w.heap.size (fun k_ => some k_ ≠ (.slice Ao73 t358.length co73 : Value).ownBlock) (.slice Ao72 t357.length co72) t357) ∧ (Kd.R (Kd.int .u32) 47 w' w.heap.size (fun k_ => some k_ ≠ (.slice Ao72 t357.length co72 : Value).ownBlock) (.slice Ao73 t358.length co73) t358) ∧ (w'.heap[gb353]? = some (.cells #[.bool a0_0, .slice A0_1 l0_1.length c0_1] 24 (0, 0))) ∧ (w'.heap[gb354]? = some (.cells #[.bool a1_0, .slice A1_1 l1_1.length c1_1] 24 (0, 0))) ∧ (w'.heap[gb355]? = some (.cells #[.bool false, .slice none 0 0] 24 (0, 0))) ∧ (w'.heap[gb356]? = some (.cells #[.bool false, .slice none 0 0] 24 (0, 0))) ∧ (w'.heap[s_.1]? = some (.cells #[.bool false, .slice none 0 0] 24 (0, 0))) ∧ (w'.heap[s_.2]? = some (.cells #[.bool false, .slice none 0 0] 24 (0, 0))) ∧ (w.heap.size ≤ s_.1) ∧ (w.heap.size ≤ s_.1) ∧ (gb353 ≠ s_.1) ∧ (s_.1 ≠ gb353) ∧ (gb354 ≠ s_.1) ∧ (s_.1 ≠ gb354) ∧ (gb355 ≠ s_.1) ∧ (s_.1 ≠ gb355) ∧ (gb356 ≠ s_.1) ∧ (s_.1 ≠ gb356) ∧ (s_.2 ≠ s_.1) ∧ (s_.1 ≠ s_.2) ∧ (w.heap.size ≤ s_.2) ∧ (w.heap.size ≤ s_.2) ∧ (gb353 ≠ s_.2) ∧ (s_.2 ≠ gb353) ∧ (gb354 ≠ s_.2) ∧ (s_.2 ≠ gb354) ∧ (gb355 ≠ s_.2) ∧ (s_.2 ≠ gb355) ∧ (gb356 ≠ s_.2) ∧ (s_.2 ≠ gb356) ∧ (Below w.heap.size w w')) ?_ ?_
          rotate_left
          ·intro hJ11_12
           refine join_ (σ := Value) 5 #[true, true, true, true, true, true, true, true, true, true, false, false, false, false, false] (fun s_ => [(31, .agg #[.bool t364, s_])]) (fun s_ w' => (w'.cell? ⟨gb353, 0, none⟩ = some (.bool a0_0) ∧ w'.cell? ⟨gb353, 1, none⟩ = some (.slice A0_1 l0_1.length c0_1) ∧ w'.cell? ⟨gb354, 0, none⟩ = some (.bool a1_0) ∧ w'.cell? ⟨gb354, 1, none⟩ = some (.slice A1_1 l1_1.length c1_1)) ∧ (Kd.R (Kd.int .u32) 47 w' w.heap.size (fun k_ => some k_ ≠ (.slice Ao73 t358.length co73 : Value).ownBlock ∧ some k_ ≠ (s_ : Value).ownBlock) (.slice Ao72 t357.length co72) t357) ∧ (Kd.R (Kd.int .u32) 47 w' w.heap.size (fun k_ => some k_ ≠ (.slice Ao72 t357.length co72 : Value).ownBlock ∧ some k_ ≠ (s_ : Value).ownBlock) (.slice Ao73 t358.length co73) t358) ∧ (Kd.R (Kd.int .u32) 47 w' w.heap.size (fun k_ => some k_ ≠ (.slice Ao72 t357.length co72 : Value).ownBlock ∧ some k_ ≠ (.slice Ao73 t358.length co73 : Value).ownBlock) s_ t365) ∧ (w'.heap[gb353]? = some (.cells #[.bool a0_0, .slice A0_1 l0_1.length c0_1] 24 (0, 0))) ∧ (w'.heap[gb354]? = some (.cells #[.bool a1_0, .slice A1_1 l1_1.length c1_1] 24 (0, 0))) ∧ (w'.heap[gb355]? = some (.cells #[.bool false, .slice none 0 0] 24 (0, 0))) ∧ (w'.heap[gb356]? = some (.cells #[.bool false, .slice none 0 0] 24 (0, 0))) ∧ (Below w.heap.size w w')) ?_ ?_
           rotate_left
           ·intro hJ6
            refine join_ (σ := Nat) 5 #[true, true, true, true, true, true, false, true, true, true, false, true, false, false, false] (fun s_ => [(10, .pointer (some ⟨s_, 0, none⟩))]) (fun s_ w' => (w'.cell? ⟨gb353, 0, none⟩ = some (.bool a0_0) ∧ w'.cell? ⟨gb353, 1, none⟩ = some (.slice A0_1 l0_1.length c0_1) ∧ w'.cell? ⟨gb354, 0, none⟩ = some (.bool a1_0) ∧ w'.cell? ⟨gb354, 1, none⟩ = some (.slice A1_1 l1_1.length c1_1)) ∧ (Kd.R (Kd.int .u32) 47 w' w.heap.size (fun k_ => some k_ ≠ (.slice Ao73 t358.length co73 : Value).ownBlock) (.slice Ao72 t357.length co72) t357) ∧ (Kd.R (Kd.int .u32) 47 w' w.heap.size (fun k_ => some k_ ≠ (.slice Ao72 t357.length co72 : Value).ownBlock) (.slice Ao73 t358.length co73) t358) ∧ (w'.heap[gb353]? = some (.cells #[.bool a0_0, .slice A0_1 l0_1.length c0_1] 24 (0, 0))) ∧ (w'.heap[gb354]? = some (.cells #[.bool a1_0, .slice A1_1 l1_1.length c1_1] 24 (0, 0))) ∧ (w'.heap[gb355]? = some (.cells #[.bool false, .slice none 0 0] 24 (0, 0))) ∧ (w'.heap[gb356]? = some (.cells #[.bool false, .slice none 0 0] 24 (0, 0))) ∧ (w'.heap[s_]? = some (.cells #[.bool false, .slice none 0 0] 24 (0, 0))) ∧ (w.heap.size ≤ s_) ∧ (w.heap.size ≤ s_) ∧ (gb353 ≠ s_) ∧ (s_ ≠ gb353) ∧ (gb354 ≠ s_) ∧ (s_ ≠ gb354) ∧ (gb355 ≠ s_) ∧ (s_ ≠ gb355) ∧ (gb356 ≠ s_) ∧ (s_ ≠ gb356) ∧ (Below w.heap.size w w')) ?_ ?_
            rotate_left
            ·intro hJ11
             refine join_ (σ := Nat) 5 #[true, true, true, true, true, true, false, true, true, true, false, false, true, false, false] (fun s_ => [(11, .pointer (some ⟨s_, 0, none⟩))]) (fun s_ w' => (w'.cell? ⟨gb353, 0, none⟩ = some (.bool a0_0) ∧ w'.cell? ⟨gb353, 1, none⟩ = some (.slice A0_1 l0_1.length c0_1) ∧ w'.cell? ⟨gb354, 0, none⟩ = some (.bool a1_0) ∧ w'.cell? ⟨gb354, 1, none⟩ = some (.slice A1_1 l1_1.length c1_1)) ∧ (Kd.R (Kd.int .u32) 47 w' w.heap.size (fun k_ => some k_ ≠ (.slice Ao73 t358.length co73 : Value).ownBlock) (.slice Ao72 t357.length co72) t357) ∧ (Kd.R (Kd.int .u32) 47 w' w.heap.size (fun k_ => some k_ ≠ (.slice Ao72 t357.length co72 : Value).ownBlock) (.slice Ao73 t358.length co73) t358) ∧ (w'.heap[gb353]? = some (.cells #[.bool a0_0, .slice A0_1 l0_1.length c0_1] 24 (0, 0))) ∧ (w'.heap[gb354]? = some (.cells #[.bool a1_0, .slice A1_1 l1_1.length c1_1] 24 (0, 0))) ∧ (w'.heap[gb355]? = some (.cells #[.bool false, .slice none 0 0] 24 (0, 0))) ∧ (w'.heap[gb356]? = some (.cells #[.bool false, .slice none 0 0] 24 (0, 0))) ∧ (w'.heap[s_]? = some (.cells #[.bool false, .slice none 0 0] 24 (0, 0))) ∧ (w.heap.size ≤ s_) ∧ (w.heap.size ≤ s_) ∧ (gb353 ≠ s_) ∧ (s_ ≠ gb353) ∧ (gb354 ≠ s_) ∧ (s_ ≠ gb354) ∧ (gb355 ≠ s_) ∧ (s_ ≠ gb355) ∧ (gb356 ≠ s_) ∧ (s_ ≠ gb356) ∧ (Below w.heap.size w w')) ?_ ?_
             rotate_left
             ·intro hJ12
              refine three_ (i := 6) (j := 11) (k := 12) (Ni := some 31) (Nj := some 10) (Nk := some 11) #[true, true, true, true, true, true, true, true, true, true, false, false, false, false, false] #[true, true, true, true, true, true, false, true, true, true, false, true, false, false, false] #[true, true, true, true, true, true, false, true, true, true, false, false, true, false, false] rfl rfl rfl rfl rfl rfl (three_of HT_.out (by kernel_rfl)) (by decide) (by decide) (by decide) (fun K hK => ?_) (fun K hK => ?_) (fun K hK => ?_)
              ·skip
               refine gs_ Try.func16 #[.bool (a0_0 != a1_0), .slice Ao72 t357.length co72] ?_
               with_reducible refine (whole_Make.calls k (a0_0 != a1_0) _ _ t357 t364 t365 _ ?side1 ?side2 A5.out).mono ?_
               (case side1 => exact kc_ (Kd.R_reads' HO361.out).2.2)
               (case side2 => exact (Kd.R_reads' HO361.out).2.1)
               rintro e w75 ⟨v366, rfl, ho0, hb⟩
               refine ⟨_, rfl, ?_⟩
               have HO367 := Aside0.mk (Kd.R_lower (Kd.R_new' (Kd.R_new' ho0 (Kd.R_lt (kr_ HO361.out))) (Kd.R_lt (kr_ HO363.out))) (below_size (bw_ HB.out)))
               replace HO361 := Aside0.mk (Kd.R_elder' (kr_ HO361.out) (Kd.R_base ho0) hb)
               replace HO363 := Aside0.mk (Kd.R_elder' (kr_ HO363.out) (Kd.R_base ho0) hb)
               replace BK353 := kq_ BK353 hb
               replace BK354 := kq_ BK354 hb
               replace BK355 := kq_ BK355 hb
               replace BK356 := kq_ BK356 hb
               replace HB := bq_ HB hb
               (try clear hb)
               (try clear hb2)
               (try clear hk)
               (try clear hi)
               (try clear ho0)
               refine hK.out _ _ ⟨(blk_cell BK353.out 0).trans rfl, (blk_cell BK353.out 1).trans rfl, (blk_cell BK354.out 0).trans rfl, (blk_cell BK354.out 1).trans rfl⟩ (fun hHeld => ?_)
               clear hK K
               refine norm_ (a' := ?_) ?_ ?_
               rotate_left
               ·show Act.put _ (some 31) _ = _
                exact pt_
               exact nr_ (hJ6 (v366) _ ⟨hHeld, (kr_ HO361.out), (kr_ HO363.out), (kr_ (Kd.R_mono HO367.out (fun _ hk => by first | exact ⟨hk.1.2, hk.2⟩ | (simp only [ob_map] at hk ⊢; exact ⟨hk.1.2, hk.2⟩)))), (kb_ BK353.out), (kb_ BK354.out), (kb_ BK355.out), (kb_ BK356.out), (bw_ HB.out)⟩)
              ·skip
               refine box_step ?hg (N := 10) ?hd (cs := #[.bool false, .slice none 0 0]) (t := 24) ?hr ?_; (case hd => rfl); (case hg => rfl); (case hr => first | (go_simp; done) | (go_simp; rfl))
               intro gb372 hg w75 hbox hb
               have BK372 := Aside0.mk (hbox)
               have GW372 := ge_ hg HB
               have GE372 := ge_ hg HB
               have NB353_372 := nb_ hg BK353
               have NB372_353 := nc_ hg BK353
               have NB354_372 := nb_ hg BK354
               have NB372_354 := nc_ hg BK354
               have NB355_372 := nb_ hg BK355
               have NB372_355 := nc_ hg BK355
               have NB356_372 := nb_ hg BK356
               have NB372_356 := nc_ hg BK356
               replace HO361 := Aside0.mk (Kd.R_below (kr_ HO361.out) hb)
               replace HO363 := Aside0.mk (Kd.R_below (kr_ HO363.out) hb)
               replace BK353 := kq_ BK353 hb
               replace BK354 := kq_ BK354 hb
               replace BK355 := kq_ BK355 hb
               replace BK356 := kq_ BK356 hb
               replace HB := bq_ HB hb
               clear hb hbox hg
               refine hK.out _ _ ⟨(blk_cell BK353.out 0).trans rfl, (blk_cell BK353.out 1).trans rfl, (blk_cell BK354.out 0).trans rfl, (blk_cell BK354.out 1).trans rfl⟩ (fun hHeld => ?_)
               clear hK K
               refine norm_ (a' := ?_) ?_ ?_
               rotate_left
               ·show Act.put _ (some 10) _ = _
                exact pt_
               exact nr_ (hJ11 (gb372) _ ⟨hHeld, (kr_ HO361.out), (kr_ HO363.out), (kb_ BK353.out), (kb_ BK354.out), (kb_ BK355.out), (kb_ BK356.out), (kb_ BK372.out), GW372.out, GE372.out, NB353_372.out, NB372_353.out, NB354_372.out, NB372_354.out, NB355_372.out, NB372_355.out, NB356_372.out, NB372_356.out, (bw_ HB.out)⟩)
              ·skip
               refine box_step ?hg (N := 11) ?hd (cs := #[.bool false, .slice none 0 0]) (t := 24) ?hr ?_; (case hd => rfl); (case hg => rfl); (case hr => first | (go_simp; done) | (go_simp; rfl))
               intro gb373 hg w75 hbox hb
               have BK373 := Aside0.mk (hbox)
               have GW373 := ge_ hg HB
               have GE373 := ge_ hg HB
               have NB353_373 := nb_ hg BK353
               have NB373_353 := nc_ hg BK353
               have NB354_373 := nb_ hg BK354
               have NB373_354 := nc_ hg BK354
               have NB355_373 := nb_ hg BK355
               have NB373_355 := nc_ hg BK355
               have NB356_373 := nb_ hg BK356
               have NB373_356 := nc_ hg BK356
               replace HO361 := Aside0.mk (Kd.R_below (kr_ HO361.out) hb)
               replace HO363 := Aside0.mk (Kd.R_below (kr_ HO363.out) hb)
               replace BK353 := kq_ BK353 hb
               replace BK354 := kq_ BK354 hb
               replace BK355 := kq_ BK355 hb
               replace BK356 := kq_ BK356 hb
               replace HB := bq_ HB hb
               clear hb hbox hg
               refine hK.out _ _ ⟨(blk_cell BK353.out 0).trans rfl, (blk_cell BK353.out 1).trans rfl, (blk_cell BK354.out 0).trans rfl, (blk_cell BK354.out 1).trans rfl⟩ (fun hHeld => ?_)
               clear hK K
               refine norm_ (a' := ?_) ?_ ?_
               rotate_left
               ·show Act.put _ (some 11) _ = _
                exact pt_
               exact nr_ (hJ12 (gb373) _ ⟨hHeld, (kr_ HO361.out), (kr_ HO363.out), (kb_ BK353.out), (kb_ BK354.out), (kb_ BK355.out), (kb_ BK356.out), (kb_ BK373.out), GW373.out, GE373.out, NB353_373.out, NB373_353.out, NB354_373.out, NB373_354.out, NB355_373.out, NB373_355.out, NB356_373.out, NB373_356.out, (bw_ HB.out)⟩)
             ·skip
              rintro gb373 w76 ⟨hS_, h0_, h1_, h2_, h3_, h4_, h5_, h6_, h7_, h8_, h9_, h10_, h11_, h12_, h13_, h14_, h15_, h16_, h17_⟩
              have BK373 := Aside0.mk h6_
              have GW373 := Aside0.mk h7_
              have GE373 := Aside0.mk h8_
              have NB353_373 := Aside0.mk h9_
              have NB373_353 := Aside0.mk h10_
              have NB354_373 := Aside0.mk h11_
              have NB373_354 := Aside0.mk h12_
              have NB355_373 := Aside0.mk h13_
              have NB373_355 := Aside0.mk h14_
              have NB356_373 := Aside0.mk h15_
              have NB373_356 := Aside0.mk h16_
              replace HO361 := Aside0.mk h0_
              replace HO363 := Aside0.mk h1_
              replace BK353 := Aside0.mk h2_
              replace BK354 := Aside0.mk h3_
              replace BK355 := Aside0.mk h4_
              replace BK356 := Aside0.mk h5_
              replace HB := Aside0.mk h17_
              clear h0_ h1_ h2_ h3_ h4_ h5_ h6_ h7_ h8_ h9_ h10_ h11_ h12_ h13_ h14_ h15_ h16_ h17_
              have hHeld : w76.cell? ⟨gb353, 0, none⟩ = some (.bool a0_0) ∧ w76.cell? ⟨gb353, 1, none⟩ = some (.slice A0_1 l0_1.length c0_1) ∧ w76.cell? ⟨gb354, 0, none⟩ = some (.bool a1_0) ∧ w76.cell? ⟨gb354, 1, none⟩ = some (.slice A1_1 l1_1.length c1_1) := hS_
              refine norm_ (a' := ?_) ?_ ?_
              rotate_left
              ·simp only [putAll, Act.put, List.setIfInBounds_toArray, List.set_cons_zero, List.set_cons_succ]
               rfl
              refine two_ (i := 6) (j := 11) (Ni := some 31) (Nj := some 10) #[true, true, true, true, true, true, true, true, true, true, false, false, true, false, false] #[true, true, true, true, true, true, false, true, true, true, false, true, true, false, false] rfl rfl rfl rfl (two_of HT_.out (by kernel_rfl)) (by decide) (by decide) (fun K hK => ?_) (fun K hK => ?_)
              ·skip
               refine gs_ Try.func16 #[.bool (a0_0 != a1_0), .slice Ao72 t357.length co72] ?_
               with_reducible refine (whole_Make.calls k (a0_0 != a1_0) _ _ t357 t364 t365 _ ?side1 ?side2 A5.out).mono ?_
               (case side1 => exact kc_ (Kd.R_reads' HO361.out).2.2)
               (case side2 => exact (Kd.R_reads' HO361.out).2.1)
               rintro e w77 ⟨v366, rfl, ho0, hb⟩
               refine ⟨_, rfl, ?_⟩
               have HO367 := Aside0.mk (Kd.R_lower (Kd.R_new' (Kd.R_new' ho0 (Kd.R_lt (kr_ HO361.out))) (Kd.R_lt (kr_ HO363.out))) (below_size (bw_ HB.out)))
               replace HO361 := Aside0.mk (Kd.R_elder' (kr_ HO361.out) (Kd.R_base ho0) hb)
               replace HO363 := Aside0.mk (Kd.R_elder' (kr_ HO363.out) (Kd.R_base ho0) hb)
               replace BK353 := kq_ BK353 hb
               replace BK354 := kq_ BK354 hb
               replace BK355 := kq_ BK355 hb
               replace BK356 := kq_ BK356 hb
               replace BK373 := kq_ BK373 hb
               replace HB := bq_ HB hb
               (try clear hb)
               (try clear hb2)
               (try clear hk)
               (try clear hi)
               (try clear ho0)
               refine hK.out _ _ ⟨(blk_cell BK353.out 0).trans rfl, (blk_cell BK353.out 1).trans rfl, (blk_cell BK354.out 0).trans rfl, (blk_cell BK354.out 1).trans rfl⟩ (fun hHeld => ?_)
               clear hK K
               refine norm_ (a' := ?_) ?_ ?_
               rotate_left
               ·show Act.put _ (some 31) _ = _
                exact pt_
               exact nr_ (hJ6_12 (v366, gb373) _ ⟨hHeld, (kr_ HO361.out), (kr_ HO363.out), (kr_ (Kd.R_mono HO367.out (fun _ hk => by first | exact ⟨hk.1.2, hk.2⟩ | (simp only [ob_map] at hk ⊢; exact ⟨hk.1.2, hk.2⟩)))), (kb_ BK353.out), (kb_ BK354.out), (kb_ BK355.out), (kb_ BK356.out), (kb_ BK373.out), GW373.out, GE373.out, NB353_373.out, NB373_353.out, NB354_373.out, NB373_354.out, NB355_373.out, NB373_355.out, NB356_373.out, NB373_356.out, (bw_ HB.out)⟩)
              ·skip
               refine box_step ?hg (N := 10) ?hd (cs := #[.bool false, .slice none 0 0]) (t := 24) ?hr ?_; (case hd => rfl); (case hg => rfl); (case hr => first | (go_simp; done) | (go_simp; rfl))
               intro gb372 hg w77 hbox hb
               have BK372 := Aside0.mk (hbox)
               have GW372 := ge_ hg HB
               have GE372 := ge_ hg HB
               have NB353_372 := nb_ hg BK353
               have NB372_353 := nc_ hg BK353
               have NB354_372 := nb_ hg BK354
               have NB372_354 := nc_ hg BK354
               have NB355_372 := nb_ hg BK355
               have NB372_355 := nc_ hg BK355
               have NB356_372 := nb_ hg BK356
               have NB372_356 := nc_ hg BK356
               have NB373_372 := nb_ hg BK373
               have NB372_373 := nc_ hg BK373
               replace HO361 := Aside0.mk (Kd.R_below (kr_ HO361.out) hb)
               replace HO363 := Aside0.mk (Kd.R_below (kr_ HO363.out) hb)
               replace BK353 := kq_ BK353 hb
               replace BK354 := kq_ BK354 hb
               replace BK355 := kq_ BK355 hb
               replace BK356 := kq_ BK356 hb
               replace BK373 := kq_ BK373 hb
               replace HB := bq_ HB hb
               clear hb hbox hg
               refine hK.out _ _ ⟨(blk_cell BK353.out 0).trans rfl, (blk_cell BK353.out 1).trans rfl, (blk_cell BK354.out 0).trans rfl, (blk_cell BK354.out 1).trans rfl⟩ (fun hHeld => ?_)
               clear hK K
               refine norm_ (a' := ?_) ?_ ?_
               rotate_left
               ·show Act.put _ (some 10) _ = _
                exact pt_
               exact nr_ (hJ11_12 (gb372, gb373) _ ⟨hHeld, (kr_ HO361.out), (kr_ HO363.out), (kb_ BK353.out), (kb_ BK354.out), (kb_ BK355.out), (kb_ BK356.out), (kb_ BK372.out), (kb_ BK373.out), GW372.out, GE372.out, NB353_372.out, NB372_353.out, NB354_372.out, NB372_354.out, NB355_372.out, NB372_355.out, NB356_372.out, NB372_356.out, NB373_372.out, NB372_373.out, GW373.out, GE373.out, NB353_373.out, NB373_353.out, NB354_373.out, NB373_354.out, NB355_373.out, NB373_355.out, NB356_373.out, NB373_356.out, (bw_ HB.out)⟩)
            ·skip
             rintro gb372 w76 ⟨hS_, h0_, h1_, h2_, h3_, h4_, h5_, h6_, h7_, h8_, h9_, h10_, h11_, h12_, h13_, h14_, h15_, h16_, h17_⟩
             have BK372 := Aside0.mk h6_
             have GW372 := Aside0.mk h7_
             have GE372 := Aside0.mk h8_
             have NB353_372 := Aside0.mk h9_
             have NB372_353 := Aside0.mk h10_
             have NB354_372 := Aside0.mk h11_
             have NB372_354 := Aside0.mk h12_
             have NB355_372 := Aside0.mk h13_
             have NB372_355 := Aside0.mk h14_
             have NB356_372 := Aside0.mk h15_
             have NB372_356 := Aside0.mk h16_
             replace HO361 := Aside0.mk h0_
             replace HO363 := Aside0.mk h1_
             replace BK353 := Aside0.mk h2_
             replace BK354 := Aside0.mk h3_
             replace BK355 := Aside0.mk h4_
             replace BK356 := Aside0.mk h5_
             replace HB := Aside0.mk h17_
             clear h0_ h1_ h2_ h3_ h4_ h5_ h6_ h7_ h8_ h9_ h10_ h11_ h12_ h13_ h14_ h15_ h16_ h17_
             have hHeld : w76.cell? ⟨gb353, 0, none⟩ = some (.bool a0_0) ∧ w76.cell? ⟨gb353, 1, none⟩ = some (.slice A0_1 l0_1.length c0_1) ∧ w76.cell? ⟨gb354, 0, none⟩ = some (.bool a1_0) ∧ w76.cell? ⟨gb354, 1, none⟩ = some (.slice A1_1 l1_1.length c1_1) := hS_
             refine norm_ (a' := ?_) ?_ ?_
             rotate_left
             ·simp only [putAll, Act.put, List.setIfInBounds_toArray, List.set_cons_zero, List.set_cons_succ]
              rfl
             refine two_ (i := 6) (j := 12) (Ni := some 31) (Nj := some 11) #[true, true, true, true, true, true, true, true, true, true, false, true, false, false, false] #[true, true, true, true, true, true, false, true, true, true, false, true, true, false, false] rfl rfl rfl rfl (two_of HT_.out (by kernel_rfl)) (by decide) (by decide) (fun K hK => ?_) (fun K hK => ?_)
             ·skip
              refine gs_ Try.func16 #[.bool (a0_0 != a1_0), .slice Ao72 t357.length co72] ?_
              with_reducible refine (whole_Make.calls k (a0_0 != a1_0) _ _ t357 t364 t365 _ ?side1 ?side2 A5.out).mono ?_
              (case side1 => exact kc_ (Kd.R_reads' HO361.out).2.2)
              (case side2 => exact (Kd.R_reads' HO361.out).2.1)
              rintro e w77 ⟨v366, rfl, ho0, hb⟩
              refine ⟨_, rfl, ?_⟩
              have HO367 := Aside0.mk (Kd.R_lower (Kd.R_new' (Kd.R_new' ho0 (Kd.R_lt (kr_ HO361.out))) (Kd.R_lt (kr_ HO363.out))) (below_size (bw_ HB.out)))
              replace HO361 := Aside0.mk (Kd.R_elder' (kr_ HO361.out) (Kd.R_base ho0) hb)
              replace HO363 := Aside0.mk (Kd.R_elder' (kr_ HO363.out) (Kd.R_base ho0) hb)
              replace BK353 := kq_ BK353 hb
              replace BK354 := kq_ BK354 hb
              replace BK355 := kq_ BK355 hb
              replace BK356 := kq_ BK356 hb
              replace BK372 := kq_ BK372 hb
              replace HB := bq_ HB hb
              (try clear hb)
              (try clear hb2)
              (try clear hk)
              (try clear hi)
              (try clear ho0)
              refine hK.out _ _ ⟨(blk_cell BK353.out 0).trans rfl, (blk_cell BK353.out 1).trans rfl, (blk_cell BK354.out 0).trans rfl, (blk_cell BK354.out 1).trans rfl⟩ (fun hHeld => ?_)
              clear hK K
              refine norm_ (a' := ?_) ?_ ?_
              rotate_left
              ·show Act.put _ (some 31) _ = _
               exact pt_
              exact nr_ (hJ6_11 (v366, gb372) _ ⟨hHeld, (kr_ HO361.out), (kr_ HO363.out), (kr_ (Kd.R_mono HO367.out (fun _ hk => by first | exact ⟨hk.1.2, hk.2⟩ | (simp only [ob_map] at hk ⊢; exact ⟨hk.1.2, hk.2⟩)))), (kb_ BK353.out), (kb_ BK354.out), (kb_ BK355.out), (kb_ BK356.out), (kb_ BK372.out), GW372.out, GE372.out, NB353_372.out, NB372_353.out, NB354_372.out, NB372_354.out, NB355_372.out, NB372_355.out, NB356_372.out, NB372_356.out, (bw_ HB.out)⟩)
             ·skip
              refine box_step ?hg (N := 11) ?hd (cs := #[.bool false, .slice none 0 0]) (t := 24) ?hr ?_; (case hd => rfl); (case hg => rfl); (case hr => first | (go_simp; done) | (go_simp; rfl))
              intro gb373 hg w77 hbox hb
              have BK373 := Aside0.mk (hbox)
              have GW373 := ge_ hg HB
              have GE373 := ge_ hg HB
              have NB353_373 := nb_ hg BK353
              have NB373_353 := nc_ hg BK353
              have NB354_373 := nb_ hg BK354
              have NB373_354 := nc_ hg BK354
              have NB355_373 := nb_ hg BK355
              have NB373_355 := nc_ hg BK355
              have NB356_373 := nb_ hg BK356
              have NB373_356 := nc_ hg BK356
              have NB372_373 := nb_ hg BK372
              have NB373_372 := nc_ hg BK372
              replace HO361 := Aside0.mk (Kd.R_below (kr_ HO361.out) hb)
              replace HO363 := Aside0.mk (Kd.R_below (kr_ HO363.out) hb)
              replace BK353 := kq_ BK353 hb
              replace BK354 := kq_ BK354 hb
              replace BK355 := kq_ BK355 hb
              replace BK356 := kq_ BK356 hb
              replace BK372 := kq_ BK372 hb
              replace HB := bq_ HB hb
              clear hb hbox hg
              refine hK.out _ _ ⟨(blk_cell BK353.out 0).trans rfl, (blk_cell BK353.out 1).trans rfl, (blk_cell BK354.out 0).trans rfl, (blk_cell BK354.out 1).trans rfl⟩ (fun hHeld => ?_)
              clear hK K
              refine norm_ (a' := ?_) ?_ ?_
              rotate_left
              ·show Act.put _ (some 11) _ = _
               exact pt_
              exact nr_ (hJ11_12 (gb372, gb373) _ ⟨hHeld, (kr_ HO361.out), (kr_ HO363.out), (kb_ BK353.out), (kb_ BK354.out), (kb_ BK355.out), (kb_ BK356.out), (kb_ BK372.out), (kb_ BK373.out), GW372.out, GE372.out, NB353_372.out, NB372_353.out, NB354_372.out, NB372_354.out, NB355_372.out, NB372_355.out, NB356_372.out, NB372_356.out, NB373_372.out, NB372_373.out, GW373.out, GE373.out, NB353_373.out, NB373_353.out, NB354_373.out, NB373_354.out, NB355_373.out, NB373_355.out, NB356_373.out, NB373_356.out, (bw_ HB.out)⟩)
           ·skip
            rintro v366 w76 ⟨hS_, h0_, h1_, h2_, h3_, h4_, h5_, h6_, h7_⟩
            have HO367 := Aside0.mk h2_
            replace HO361 := Aside0.mk h0_
            replace HO363 := Aside0.mk h1_
            replace BK353 := Aside0.mk h3_
            replace BK354 := Aside0.mk h4_
            replace BK355 := Aside0.mk h5_
            replace BK356 := Aside0.mk h6_
            replace HB := Aside0.mk h7_
            clear h0_ h1_ h2_ h3_ h4_ h5_ h6_ h7_
            have hHeld : w76.cell? ⟨gb353, 0, none⟩ = some (.bool a0_0) ∧ w76.cell? ⟨gb353, 1, none⟩ = some (.slice A0_1 l0_1.length c0_1) ∧ w76.cell? ⟨gb354, 0, none⟩ = some (.bool a1_0) ∧ w76.cell? ⟨gb354, 1, none⟩ = some (.slice A1_1 l1_1.length c1_1) := hS_
            refine norm_ (a' := ?_) ?_ ?_
            rotate_left
            ·simp only [putAll, Act.put, List.setIfInBounds_toArray, List.set_cons_zero, List.set_cons_succ]
             rfl
            refine three_ (i := 10) (j := 11) (k := 12) (Ni := some 35) (Nj := some 10) (Nk := some 11) #[true, true, true, true, true, true, true, true, true, true, true, false, false, false, false] #[true, true, true, true, true, true, true, true, true, true, false, true, false, false, false] #[true, true, true, true, true, true, true, true, true, true, false, false, true, false, false] rfl rfl rfl rfl rfl rfl (three_of HT_.out (by kernel_rfl)) (by decide) (by decide) (by decide) (fun K hK => ?_) (fun K hK => ?_) (fun K hK => ?_)
            ·skip
             refine gs_ Try.func16 #[.bool a0_0, .slice Ao73 t358.length co73] ?_
             with_reducible refine (whole_Make.calls k a0_0 _ _ t358 t368 t369 _ ?side1 ?side2 A6.out).mono ?_
             (case side1 => exact kc_ (Kd.R_reads' HO363.out).2.2)
             (case side2 => exact (Kd.R_reads' HO363.out).2.1)
             rintro e w77 ⟨v370, rfl, ho0, hb⟩
             refine ⟨_, rfl, ?_⟩
             have HO371 := Aside0.mk (Kd.R_lower (Kd.R_new' (Kd.R_new' (Kd.R_new' ho0 (Kd.R_lt (kr_ HO361.out))) (Kd.R_lt (kr_ HO363.out))) (Kd.R_lt (kr_ HO367.out))) (below_size (bw_ HB.out)))
             replace HO361 := Aside0.mk (Kd.R_elder' (kr_ HO361.out) (Kd.R_base ho0) hb)
             replace HO363 := Aside0.mk (Kd.R_elder' (kr_ HO363.out) (Kd.R_base ho0) hb)
             replace HO367 := Aside0.mk (Kd.R_elder' (kr_ HO367.out) (Kd.R_base ho0) hb)
             replace BK353 := kq_ BK353 hb
             replace BK354 := kq_ BK354 hb
             replace BK355 := kq_ BK355 hb
             replace BK356 := kq_ BK356 hb
             replace HB := bq_ HB hb
             (try clear hb)
             (try clear hb2)
             (try clear hk)
             (try clear hi)
             (try clear ho0)
             refine hK.out _ _ ⟨(blk_cell BK353.out 0).trans rfl, (blk_cell BK353.out 1).trans rfl, (blk_cell BK354.out 0).trans rfl, (blk_cell BK354.out 1).trans rfl⟩ (fun hHeld => ?_)
             clear hK K
             refine norm_ (a' := ?_) ?_ ?_
             rotate_left
             ·show Act.put _ (some 35) _ = _
              exact pt_
             exact nr_ (hJ6_10 (v366, v370) _ ⟨hHeld, (kr_ (Kd.R_mono HO361.out (fun _ hk => by first | exact ⟨hk.1.1, ⟨hk.1.2, hk.2⟩⟩ | simp [hk]))), (kr_ (Kd.R_mono HO363.out (fun _ hk => by first | exact ⟨hk.1.1, ⟨hk.1.2, hk.2⟩⟩ | simp [hk]))), (kr_ (Kd.R_mono HO367.out (fun _ hk => by first | exact ⟨hk.1.1, ⟨hk.1.2, hk.2⟩⟩ | simp [hk]))), (kr_ (Kd.R_mono HO371.out (fun _ hk => by first | exact ⟨hk.1.1.2, ⟨hk.1.2, hk.2⟩⟩ | simp [hk]))), (kb_ BK353.out), (kb_ BK354.out), (kb_ BK355.out), (kb_ BK356.out), (bw_ HB.out)⟩)
            ·skip
             refine box_step ?hg (N := 10) ?hd (cs := #[.bool false, .slice none 0 0]) (t := 24) ?hr ?_; (case hd => rfl); (case hg => rfl); (case hr => first | (go_simp; done) | (go_simp; rfl))
             intro gb372 hg w77 hbox hb
             have BK372 := Aside0.mk (hbox)
             have GW372 := ge_ hg HB
             have GE372 := ge_ hg HB
             have NB353_372 := nb_ hg BK353
             have NB372_353 := nc_ hg BK353
             have NB354_372 := nb_ hg BK354
             have NB372_354 := nc_ hg BK354
             have NB355_372 := nb_ hg BK355
             have NB372_355 := nc_ hg BK355
             have NB356_372 := nb_ hg BK356
             have NB372_356 := nc_ hg BK356
             replace HO361 := Aside0.mk (Kd.R_below (kr_ HO361.out) hb)
             replace HO363 := Aside0.mk (Kd.R_below (kr_ HO363.out) hb)
             replace HO367 := Aside0.mk (Kd.R_below (kr_ HO367.out) hb)
             replace BK353 := kq_ BK353 hb
             replace BK354 := kq_ BK354 hb
             replace BK355 := kq_ BK355 hb
             replace BK356 := kq_ BK356 hb
             replace HB := bq_ HB hb
             clear hb hbox hg
             refine hK.out _ _ ⟨(blk_cell BK353.out 0).trans rfl, (blk_cell BK353.out 1).trans rfl, (blk_cell BK354.out 0).trans rfl, (blk_cell BK354.out 1).trans rfl⟩ (fun hHeld => ?_)
             clear hK K
             refine norm_ (a' := ?_) ?_ ?_
             rotate_left
             ·show Act.put _ (some 10) _ = _
              exact pt_
             exact nr_ (hJ6_11 (v366, gb372) _ ⟨hHeld, (kr_ HO361.out), (kr_ HO363.out), (kr_ HO367.out), (kb_ BK353.out), (kb_ BK354.out), (kb_ BK355.out), (kb_ BK356.out), (kb_ BK372.out), GW372.out, GE372.out, NB353_372.out, NB372_353.out, NB354_372.out, NB372_354.out, NB355_372.out, NB372_355.out, NB356_372.out, NB372_356.out, (bw_ HB.out)⟩)
            ·skip
             refine box_step ?hg (N := 11) ?hd (cs := #[.bool false, .slice none 0 0]) (t := 24) ?hr ?_; (case hd => rfl); (case hg => rfl); (case hr => first | (go_simp; done) | (go_simp; rfl))
             intro gb373 hg w77 hbox hb
             have BK373 := Aside0.mk (hbox)
             have GW373 := ge_ hg HB
             have GE373 := ge_ hg HB
             have NB353_373 := nb_ hg BK353
             have NB373_353 := nc_ hg BK353
             have NB354_373 := nb_ hg BK354
             have NB373_354 := nc_ hg BK354
             have NB355_373 := nb_ hg BK355
             have NB373_355 := nc_ hg BK355
             have NB356_373 := nb_ hg BK356
             have NB373_356 := nc_ hg BK356
             replace HO361 := Aside0.mk (Kd.R_below (kr_ HO361.out) hb)
             replace HO363 := Aside0.mk (Kd.R_below (kr_ HO363.out) hb)
             replace HO367 := Aside0.mk (Kd.R_below (kr_ HO367.out) hb)
             replace BK353 := kq_ BK353 hb
             replace BK354 := kq_ BK354 hb
             replace BK355 := kq_ BK355 hb
             replace BK356 := kq_ BK356 hb
             replace HB := bq_ HB hb
             clear hb hbox hg
             refine hK.out _ _ ⟨(blk_cell BK353.out 0).trans rfl, (blk_cell BK353.out 1).trans rfl, (blk_cell BK354.out 0).trans rfl, (blk_cell BK354.out 1).trans rfl⟩ (fun hHeld => ?_)
             clear hK K
             refine norm_ (a' := ?_) ?_ ?_
             rotate_left
             ·show Act.put _ (some 11) _ = _
              exact pt_
             exact nr_ (hJ6_12 (v366, gb373) _ ⟨hHeld, (kr_ HO361.out), (kr_ HO363.out), (kr_ HO367.out), (kb_ BK353.out), (kb_ BK354.out), (kb_ BK355.out), (kb_ BK356.out), (kb_ BK373.out), GW373.out, GE373.out, NB353_373.out, NB373_353.out, NB354_373.out, NB373_354.out, NB355_373.out, NB373_355.out, NB356_373.out, NB373_356.out, (bw_ HB.out)⟩)
          ·skip
           rintro ⟨gb372, gb373⟩ w77 ⟨hS_, h0_, h1_, h2_, h3_, h4_, h5_, h6_, h7_, h8_, h9_, h10_, h11_, h12_, h13_, h14_, h15_, h16_, h17_, h18_, h19_, h20_, h21_, h22_, h23_, h24_, h25_, h26_, h27_, h28_, h29_, h30_⟩
           have BK372 := Aside0.mk h6_
           have BK373 := Aside0.mk h7_
           have GW372 := Aside0.mk h8_
           have GE372 := Aside0.mk h9_
           have NB353_372 := Aside0.mk h10_
           have NB372_353 := Aside0.mk h11_
           have NB354_372 := Aside0.mk h12_
           have NB372_354 := Aside0.mk h13_
           have NB355_372 := Aside0.mk h14_
           have NB372_355 := Aside0.mk h15_
           have NB356_372 := Aside0.mk h16_
           have NB372_356 := Aside0.mk h17_
           have NB373_372 := Aside0.mk h18_
           have NB372_373 := Aside0.mk h19_
           have GW373 := Aside0.mk h20_
           have GE373 := Aside0.mk h21_
           have NB353_373 := Aside0.mk h22_
           have NB373_353 := Aside0.mk h23_
           have NB354_373 := Aside0.mk h24_
           have NB373_354 := Aside0.mk h25_
           have NB355_373 := Aside0.mk h26_
           have NB373_355 := Aside0.mk h27_
           have NB356_373 := Aside0.mk h28_
           have NB373_356 := Aside0.mk h29_
           replace HO361 := Aside0.mk h0_
           replace HO363 := Aside0.mk h1_
           replace BK353 := Aside0.mk h2_
           replace BK354 := Aside0.mk h3_
           replace BK355 := Aside0.mk h4_
           replace BK356 := Aside0.mk h5_
           replace HB := Aside0.mk h30_
           clear h0_ h1_ h2_ h3_ h4_ h5_ h6_ h7_ h8_ h9_ h10_ h11_ h12_ h13_ h14_ h15_ h16_ h17_ h18_ h19_ h20_ h21_ h22_ h23_ h24_ h25_ h26_ h27_ h28_ h29_ h30_
           have hHeld : w77.cell? ⟨gb353, 0, none⟩ = some (.bool a0_0) ∧ w77.cell? ⟨gb353, 1, none⟩ = some (.slice A0_1 l0_1.length c0_1) ∧ w77.cell? ⟨gb354, 0, none⟩ = some (.bool a1_0) ∧ w77.cell? ⟨gb354, 1, none⟩ = some (.slice A1_1 l1_1.length c1_1) := hS_
           refine norm_ (a' := ?_) ?_ ?_
           rotate_left
           ·simp only [putAll, Act.put, List.setIfInBounds_toArray, List.set_cons_zero, List.set_cons_succ]
            rfl
           refine one_ (i := 6) (N := some 31) #[true, true, true, true, true, true, true, true, true, true, false, true, true, false, false] rfl rfl (one_of HT_.out (by kernel_rfl)) (by decide) (fun K hK => ?_)
           refine gs_ Try.func16 #[.bool (a0_0 != a1_0), .slice Ao72 t357.length co72] ?_
           with_reducible refine (whole_Make.calls k (a0_0 != a1_0) _ _ t357 t364 t365 _ ?side1 ?side2 A5.out).mono ?_
           (case side1 => exact kc_ (Kd.R_reads' HO361.out).2.2)
           (case side2 => exact (Kd.R_reads' HO361.out).2.1)
           rintro e w78 ⟨v366, rfl, ho0, hb⟩
           refine ⟨_, rfl, ?_⟩
           have HO367 := Aside0.mk (Kd.R_lower (Kd.R_new' (Kd.R_new' ho0 (Kd.R_lt (kr_ HO361.out))) (Kd.R_lt (kr_ HO363.out))) (below_size (bw_ HB.out)))
           replace HO361 := Aside0.mk (Kd.R_elder' (kr_ HO361.out) (Kd.R_base ho0) hb)
           replace HO363 := Aside0.mk (Kd.R_elder' (kr_ HO363.out) (Kd.R_base ho0) hb)
           replace BK353 := kq_ BK353 hb
           replace BK354 := kq_ BK354 hb
           replace BK355 := kq_ BK355 hb
           replace BK356 := kq_ BK356 hb
           replace BK372 := kq_ BK372 hb
           replace BK373 := kq_ BK373 hb
           replace HB := bq_ HB hb
           (try clear hb)
           (try clear hb2)
           (try clear hk)
           (try clear hi)
           (try clear ho0)
           refine hK.out _ _ ⟨(blk_cell BK353.out 0).trans rfl, (blk_cell BK353.out 1).trans rfl, (blk_cell BK354.out 0).trans rfl, (blk_cell BK354.out 1).trans rfl⟩ (fun hHeld => ?_)
           clear hK K
           refine norm_ (a' := ?_) ?_ ?_
           rotate_left
           ·show Act.put _ (some 31) _ = _
            exact pt_
           exact nr_ (hJ6_11_12 (v366, gb372, gb373) _ ⟨hHeld, (kr_ HO361.out), (kr_ HO363.out), (kr_ (Kd.R_mono HO367.out (fun _ hk => by first | exact ⟨hk.1.2, hk.2⟩ | (simp only [ob_map] at hk ⊢; exact ⟨hk.1.2, hk.2⟩)))), (kb_ BK353.out), (kb_ BK354.out), (kb_ BK355.out), (kb_ BK356.out), (kb_ BK372.out), (kb_ BK373.out), GW372.out, GE372.out, NB353_372.out, NB372_353.out, NB354_372.out, NB372_354.out, NB355_372.out, NB372_355.out, NB356_372.out, NB372_356.out, NB373_372.out, NB372_373.out, GW373.out, GE373.out, NB353_373.out, NB373_353.out, NB354_373.out, NB373_354.out, NB355_373.out, NB373_355.out, NB356_373.out, NB373_356.out, (bw_ HB.out)⟩)
         ·skip
          rintro ⟨v366, gb373⟩ w77 ⟨hS_, h0_, h1_, h2_, h3_, h4_, h5_, h6_, h7_, h8_, h9_, h10_, h11_, h12_, h13_, h14_, h15_, h16_, h17_, h18_⟩
          have HO367 := Aside0.mk h2_
          have BK373 := Aside0.mk h7_
          have GW373 := Aside0.mk h8_
          have GE373 := Aside0.mk h9_
          have NB353_373 := Aside0.mk h10_
          have NB373_353 := Aside0.mk h11_
          have NB354_373 := Aside0.mk h12_
          have NB373_354 := Aside0.mk h13_
          have NB355_373 := Aside0.mk h14_
          have NB373_355 := Aside0.mk h15_
          have NB356_373 := Aside0.mk h16_
          have NB373_356 := Aside0.mk h17_
          replace HO361 := Aside0.mk h0_
          replace HO363 := Aside0.mk h1_
          replace BK353 := Aside0.mk h3_
          replace BK354 := Aside0.mk h4_
          replace BK355 := Aside0.mk h5_
          replace BK356 := Aside0.mk h6_
          replace HB := Aside0.mk h18_
          clear h0_ h1_ h2_ h3_ h4_ h5_ h6_ h7_ h8_ h9_ h10_ h11_ h12_ h13_ h14_ h15_ h16_ h17_ h18_
          have hHeld : w77.cell? ⟨gb353, 0, none⟩ = some (.bool a0_0) ∧ w77.cell? ⟨gb353, 1, none⟩ = some (.slice A0_1 l0_1.length c0_1) ∧ w77.cell? ⟨gb354, 0, none⟩ = some (.bool a1_0) ∧ w77.cell? ⟨gb354, 1, none⟩ = some (.slice A1_1 l1_1.length c1_1) := hS_
          refine norm_ (a' := ?_) ?_ ?_
          rotate_left
          ·simp only [putAll, Act.put, List.setIfInBounds_toArray, List.set_cons_zero, List.set_cons_succ]
           rfl
          refine two_ (i := 10) (j := 11) (Ni := some 35) (Nj := some 10) #[true, true, true, true, true, true, true, true, true, true, true, false, true, false, false] #[true, true, true, true, true, true, true, true, true, true, false, true, true, false, false] rfl rfl rfl rfl (two_of HT_.out (by kernel_rfl)) (by decide) (by decide) (fun K hK => ?_) (fun K hK => ?_)
          ·skip
           refine gs_ Try.func16 #[.bool a0_0, .slice Ao73 t358.length co73] ?_
           with_reducible refine (whole_Make.calls k a0_0 _ _ t358 t368 t369 _ ?side1 ?side2 A6.out).mono ?_
           (case side1 => exact kc_ (Kd.R_reads' HO363.out).2.2)
           (case side2 => exact (Kd.R_reads' HO363.out).2.1)
           rintro e w78 ⟨v370, rfl, ho0, hb⟩
           refine ⟨_, rfl, ?_⟩
           have HO371 := Aside0.mk (Kd.R_lower (Kd.R_new' (Kd.R_new' (Kd.R_new' ho0 (Kd.R_lt (kr_ HO361.out))) (Kd.R_lt (kr_ HO363.out))) (Kd.R_lt (kr_ HO367.out))) (below_size (bw_ HB.out)))
           replace HO361 := Aside0.mk (Kd.R_elder' (kr_ HO361.out) (Kd.R_base ho0) hb)
           replace HO363 := Aside0.mk (Kd.R_elder' (kr_ HO363.out) (Kd.R_base ho0) hb)
           replace HO367 := Aside0.mk (Kd.R_elder' (kr_ HO367.out) (Kd.R_base ho0) hb)
           replace BK353 := kq_ BK353 hb
           replace BK354 := kq_ BK354 hb
           replace BK355 := kq_ BK355 hb
           replace BK356 := kq_ BK356 hb
           replace BK373 := kq_ BK373 hb
           replace HB := bq_ HB hb
           (try clear hb)
           (try clear hb2)
           (try clear hk)
           (try clear hi)
           (try clear ho0)
           refine hK.out _ _ ⟨(blk_cell BK353.out 0).trans rfl, (blk_cell BK353.out 1).trans rfl, (blk_cell BK354.out 0).trans rfl, (blk_cell BK354.out 1).trans rfl⟩ (fun hHeld => ?_)
           clear hK K
           refine norm_ (a' := ?_) ?_ ?_
           rotate_left
           ·show Act.put _ (some 35) _ = _
            exact pt_
           exact nr_ (hJ6_10_12 (v366, v370, gb373) _ ⟨hHeld, (kr_ (Kd.R_mono HO361.out (fun _ hk => by first | exact ⟨hk.1.1, ⟨hk.1.2, hk.2⟩⟩ | simp [hk]))), (kr_ (Kd.R_mono HO363.out (fun _ hk => by first | exact ⟨hk.1.1, ⟨hk.1.2, hk.2⟩⟩ | simp [hk]))), (kr_ (Kd.R_mono HO367.out (fun _ hk => by first | exact ⟨hk.1.1, ⟨hk.1.2, hk.2⟩⟩ | simp [hk]))), (kr_ (Kd.R_mono HO371.out (fun _ hk => by first | exact ⟨hk.1.1.2, ⟨hk.1.2, hk.2⟩⟩ | simp [hk]))), (kb_ BK353.out), (kb_ BK354.out), (kb_ BK355.out), (kb_ BK356.out), (kb_ BK373.out), GW373.out, GE373.out, NB353_373.out, NB373_353.out, NB354_373.out, NB373_354.out, NB355_373.out, NB373_355.out, NB356_373.out, NB373_356.out, (bw_ HB.out)⟩)
          ·skip
           refine box_step ?hg (N := 10) ?hd (cs := #[.bool false, .slice none 0 0]) (t := 24) ?hr ?_; (case hd => rfl); (case hg => rfl); (case hr => first | (go_simp; done) | (go_simp; rfl))
           intro gb372 hg w78 hbox hb
           have BK372 := Aside0.mk (hbox)
           have GW372 := ge_ hg HB
           have GE372 := ge_ hg HB
           have NB353_372 := nb_ hg BK353
           have NB372_353 := nc_ hg BK353
           have NB354_372 := nb_ hg BK354
           have NB372_354 := nc_ hg BK354
           have NB355_372 := nb_ hg BK355
           have NB372_355 := nc_ hg BK355
           have NB356_372 := nb_ hg BK356
           have NB372_356 := nc_ hg BK356
           have NB373_372 := nb_ hg BK373
           have NB372_373 := nc_ hg BK373
           replace HO361 := Aside0.mk (Kd.R_below (kr_ HO361.out) hb)
           replace HO363 := Aside0.mk (Kd.R_below (kr_ HO363.out) hb)
           replace HO367 := Aside0.mk (Kd.R_below (kr_ HO367.out) hb)
           replace BK353 := kq_ BK353 hb
           replace BK354 := kq_ BK354 hb
           replace BK355 := kq_ BK355 hb
           replace BK356 := kq_ BK356 hb
           replace BK373 := kq_ BK373 hb
           replace HB := bq_ HB hb
           clear hb hbox hg
           refine hK.out _ _ ⟨(blk_cell BK353.out 0).trans rfl, (blk_cell BK353.out 1).trans rfl, (blk_cell BK354.out 0).trans rfl, (blk_cell BK354.out 1).trans rfl⟩ (fun hHeld => ?_)
           clear hK K
           refine norm_ (a' := ?_) ?_ ?_
           rotate_left
           ·show Act.put _ (some 10) _ = _
            exact pt_
           exact nr_ (hJ6_11_12 (v366, gb372, gb373) _ ⟨hHeld, (kr_ HO361.out), (kr_ HO363.out), (kr_ HO367.out), (kb_ BK353.out), (kb_ BK354.out), (kb_ BK355.out), (kb_ BK356.out), (kb_ BK372.out), (kb_ BK373.out), GW372.out, GE372.out, NB353_372.out, NB372_353.out, NB354_372.out, NB372_354.out, NB355_372.out, NB372_355.out, NB356_372.out, NB372_356.out, NB373_372.out, NB372_373.out, GW373.out, GE373.out, NB353_373.out, NB373_353.out, NB354_373.out, NB373_354.out, NB355_373.out, NB373_355.out, NB356_373.out, NB373_356.out, (bw_ HB.out)⟩)
        ·skip
         rintro ⟨v366, gb372⟩ w77 ⟨hS_, h0_, h1_, h2_, h3_, h4_, h5_, h6_, h7_, h8_, h9_, h10_, h11_, h12_, h13_, h14_, h15_, h16_, h17_, h18_⟩
         have HO367 := Aside0.mk h2_
         have BK372 := Aside0.mk h7_
         have GW372 := Aside0.mk h8_
         have GE372 := Aside0.mk h9_
         have NB353_372 := Aside0.mk h10_
         have NB372_353 := Aside0.mk h11_
         have NB354_372 := Aside0.mk h12_
         have NB372_354 := Aside0.mk h13_
         have NB355_372 := Aside0.mk h14_
         have NB372_355 := Aside0.mk h15_
         have NB356_372 := Aside0.mk h16_
         have NB372_356 := Aside0.mk h17_
         replace HO361 := Aside0.mk h0_
         replace HO363 := Aside0.mk h1_
         replace BK353 := Aside0.mk h3_
         replace BK354 := Aside0.mk h4_
         replace BK355 := Aside0.mk h5_
         replace BK356 := Aside0.mk h6_
         replace HB := Aside0.mk h18_
         clear h0_ h1_ h2_ h3_ h4_ h5_ h6_ h7_ h8_ h9_ h10_ h11_ h12_ h13_ h14_ h15_ h16_ h17_ h18_
         have hHeld : w77.cell? ⟨gb353, 0, none⟩ = some (.bool a0_0) ∧ w77.cell? ⟨gb353, 1, none⟩ = some (.slice A0_1 l0_1.length c0_1) ∧ w77.cell? ⟨gb354, 0, none⟩ = some (.bool a1_0) ∧ w77.cell? ⟨gb354, 1, none⟩ = some (.slice A1_1 l1_1.length c1_1) := hS_
         refine norm_ (a' := ?_) ?_ ?_
         rotate_left
         ·simp only [putAll, Act.put, List.setIfInBounds_toArray, List.set_cons_zero, List.set_cons_succ]
          rfl
         refine two_ (i := 10) (j := 12) (Ni := some 35) (Nj := some 11) #[true, true, true, true, true, true, true, true, true, true, true, true, false, false, false] #[true, true, true, true, true, true, true, true, true, true, false, true, true, false, false] rfl rfl rfl rfl (two_of HT_.out (by kernel_rfl)) (by decide) (by decide) (fun K hK => ?_) (fun K hK => ?_)
         ·skip
          refine gs_ Try.func16 #[.bool a0_0, .slice Ao73 t358.length co73] ?_
          with_reducible refine (whole_Make.calls k a0_0 _ _ t358 t368 t369 _ ?side1 ?side2 A6.out).mono ?_
          (case side1 => exact kc_ (Kd.R_reads' HO363.out).2.2)
          (case side2 => exact (Kd.R_reads' HO363.out).2.1)
          rintro e w78 ⟨v370, rfl, ho0, hb⟩
          refine ⟨_, rfl, ?_⟩
          have HO371 := Aside0.mk (Kd.R_lower (Kd.R_new' (Kd.R_new' (Kd.R_new' ho0 (Kd.R_lt (kr_ HO361.out))) (Kd.R_lt (kr_ HO363.out))) (Kd.R_lt (kr_ HO367.out))) (below_size (bw_ HB.out)))
          replace HO361 := Aside0.mk (Kd.R_elder' (kr_ HO361.out) (Kd.R_base ho0) hb)
          replace HO363 := Aside0.mk (Kd.R_elder' (kr_ HO363.out) (Kd.R_base ho0) hb)
          replace HO367 := Aside0.mk (Kd.R_elder' (kr_ HO367.out) (Kd.R_base ho0) hb)
          replace BK353 := kq_ BK353 hb
          replace BK354 := kq_ BK354 hb
          replace BK355 := kq_ BK355 hb
          replace BK356 := kq_ BK356 hb
          replace BK372 := kq_ BK372 hb
          replace HB := bq_ HB hb
          (try clear hb)
          (try clear hb2)
          (try clear hk)
          (try clear hi)
          (try clear ho0)
          refine hK.out _ _ ⟨(blk_cell BK353.out 0).trans rfl, (blk_cell BK353.out 1).trans rfl, (blk_cell BK354.out 0).trans rfl, (blk_cell BK354.out 1).trans rfl⟩ (fun hHeld => ?_)
          clear hK K
          refine norm_ (a' := ?_) ?_ ?_
          rotate_left
          ·show Act.put _ (some 35) _ = _
           exact pt_
          exact nr_ (hJ6_10_11 (v366, v370, gb372) _ ⟨hHeld, (kr_ (Kd.R_mono HO361.out (fun _ hk => by first | exact ⟨hk.1.1, ⟨hk.1.2, hk.2⟩⟩ | simp [hk]))), (kr_ (Kd.R_mono HO363.out (fun _ hk => by first | exact ⟨hk.1.1, ⟨hk.1.2, hk.2⟩⟩ | simp [hk]))), (kr_ (Kd.R_mono HO367.out (fun _ hk => by first | exact ⟨hk.1.1, ⟨hk.1.2, hk.2⟩⟩ | simp [hk]))), (kr_ (Kd.R_mono HO371.out (fun _ hk => by first | exact ⟨hk.1.1.2, ⟨hk.1.2, hk.2⟩⟩ | simp [hk]))), (kb_ BK353.out), (kb_ BK354.out), (kb_ BK355.out), (kb_ BK356.out), (kb_ BK372.out), GW372.out, GE372.out, NB353_372.out, NB372_353.out, NB354_372.out, NB372_354.out, NB355_372.out, NB372_355.out, NB356_372.out, NB372_356.out, (bw_ HB.out)⟩)
         ·skip
          refine box_step ?hg (N := 11) ?hd (cs := #[.bool false, .slice none 0 0]) (t := 24) ?hr ?_; (case hd => rfl); (case hg => rfl); (case hr => first | (go_simp; done) | (go_simp; rfl))
          intro gb373 hg w78 hbox hb
          have BK373 := Aside0.mk (hbox)
          have GW373 := ge_ hg HB
          have GE373 := ge_ hg HB
          have NB353_373 := nb_ hg BK353
          have NB373_353 := nc_ hg BK353
          have NB354_373 := nb_ hg BK354
          have NB373_354 := nc_ hg BK354
          have NB355_373 := nb_ hg BK355
          have NB373_355 := nc_ hg BK355
          have NB356_373 := nb_ hg BK356
          have NB373_356 := nc_ hg BK356
          have NB372_373 := nb_ hg BK372
          have NB373_372 := nc_ hg BK372
          replace HO361 := Aside0.mk (Kd.R_below (kr_ HO361.out) hb)
          replace HO363 := Aside0.mk (Kd.R_below (kr_ HO363.out) hb)
          replace HO367 := Aside0.mk (Kd.R_below (kr_ HO367.out) hb)
          replace BK353 := kq_ BK353 hb
          replace BK354 := kq_ BK354 hb
          replace BK355 := kq_ BK355 hb
          replace BK356 := kq_ BK356 hb
          replace BK372 := kq_ BK372 hb
          replace HB := bq_ HB hb
          clear hb hbox hg
          refine hK.out _ _ ⟨(blk_cell BK353.out 0).trans rfl, (blk_cell BK353.out 1).trans rfl, (blk_cell BK354.out 0).trans rfl, (blk_cell BK354.out 1).trans rfl⟩ (fun hHeld => ?_)
          clear hK K
          refine norm_ (a' := ?_) ?_ ?_
          rotate_left
          ·show Act.put _ (some 11) _ = _
           exact pt_
          exact nr_ (hJ6_11_12 (v366, gb372, gb373) _ ⟨hHeld, (kr_ HO361.out), (kr_ HO363.out), (kr_ HO367.out), (kb_ BK353.out), (kb_ BK354.out), (kb_ BK355.out), (kb_ BK356.out), (kb_ BK372.out), (kb_ BK373.out), GW372.out, GE372.out, NB353_372.out, NB372_353.out, NB354_372.out, NB372_354.out, NB355_372.out, NB372_355.out, NB356_372.out, NB372_356.out, NB373_372.out, NB372_373.out, GW373.out, GE373.out, NB353_373.out, NB373_353.out, NB354_373.out, NB373_354.out, NB355_373.out, NB373_355.out, NB356_373.out, NB373_356.out, (bw_ HB.out)⟩)
       ·skip
        rintro ⟨v366, v370⟩ w77 ⟨hS_, h0_, h1_, h2_, h3_, h4_, h5_, h6_, h7_, h8_⟩
        have HO367 := Aside0.mk h2_
        have HO371 := Aside0.mk h3_
        replace HO361 := Aside0.mk h0_
        replace HO363 := Aside0.mk h1_
        replace BK353 := Aside0.mk h4_
        replace BK354 := Aside0.mk h5_
        replace BK355 := Aside0.mk h6_
        replace BK356 := Aside0.mk h7_
        replace HB := Aside0.mk h8_
        clear h0_ h1_ h2_ h3_ h4_ h5_ h6_ h7_ h8_
        have hHeld : w77.cell? ⟨gb353, 0, none⟩ = some (.bool a0_0) ∧ w77.cell? ⟨gb353, 1, none⟩ = some (.slice A0_1 l0_1.length c0_1) ∧ w77.cell? ⟨gb354, 0, none⟩ = some (.bool a1_0) ∧ w77.cell? ⟨gb354, 1, none⟩ = some (.slice A1_1 l1_1.length c1_1) := hS_
        refine norm_ (a' := ?_) ?_ ?_
        rotate_left
        ·simp only [putAll, Act.put, List.setIfInBounds_toArray, List.set_cons_zero, List.set_cons_succ]
         rfl
        refine two_ (i := 11) (j := 12) (Ni := some 10) (Nj := some 11) #[true, true, true, true, true, true, true, true, true, true, true, true, false, false, false] #[true, true, true, true, true, true, true, true, true, true, true, false, true, false, false] rfl rfl rfl rfl (two_of HT_.out (by kernel_rfl)) (by decide) (by decide) (fun K hK => ?_) (fun K hK => ?_)
        ·skip
         refine box_step ?hg (N := 10) ?hd (cs := #[.bool false, .slice none 0 0]) (t := 24) ?hr ?_; (case hd => rfl); (case hg => rfl); (case hr => first | (go_simp; done) | (go_simp; rfl))
         intro gb372 hg w78 hbox hb
         have BK372 := Aside0.mk (hbox)
         have GW372 := ge_ hg HB
         have GE372 := ge_ hg HB
         have NB353_372 := nb_ hg BK353
         have NB372_353 := nc_ hg BK353
         have NB354_372 := nb_ hg BK354
         have NB372_354 := nc_ hg BK354
         have NB355_372 := nb_ hg BK355
         have NB372_355 := nc_ hg BK355
         have NB356_372 := nb_ hg BK356
         have NB372_356 := nc_ hg BK356
         replace HO361 := Aside0.mk (Kd.R_below (kr_ HO361.out) hb)
         replace HO363 := Aside0.mk (Kd.R_below (kr_ HO363.out) hb)
         replace HO367 := Aside0.mk (Kd.R_below (kr_ HO367.out) hb)
         replace HO371 := Aside0.mk (Kd.R_below (kr_ HO371.out) hb)
         replace BK353 := kq_ BK353 hb
         replace BK354 := kq_ BK354 hb
         replace BK355 := kq_ BK355 hb
         replace BK356 := kq_ BK356 hb
         replace HB := bq_ HB hb
         clear hb hbox hg
         refine hK.out _ _ ⟨(blk_cell BK353.out 0).trans rfl, (blk_cell BK353.out 1).trans rfl, (blk_cell BK354.out 0).trans rfl, (blk_cell BK354.out 1).trans rfl⟩ (fun hHeld => ?_)
         clear hK K
         refine norm_ (a' := ?_) ?_ ?_
         rotate_left
         ·show Act.put _ (some 10) _ = _
          exact pt_
         exact nr_ (hJ6_10_11 (v366, v370, gb372) _ ⟨hHeld, (kr_ HO361.out), (kr_ HO363.out), (kr_ HO367.out), (kr_ HO371.out), (kb_ BK353.out), (kb_ BK354.out), (kb_ BK355.out), (kb_ BK356.out), (kb_ BK372.out), GW372.out, GE372.out, NB353_372.out, NB372_353.out, NB354_372.out, NB372_354.out, NB355_372.out, NB372_355.out, NB356_372.out, NB372_356.out, (bw_ HB.out)⟩)
        ·skip
         refine box_step ?hg (N := 11) ?hd (cs := #[.bool false, .slice none 0 0]) (t := 24) ?hr ?_; (case hd => rfl); (case hg => rfl); (case hr => first | (go_simp; done) | (go_simp; rfl))
         intro gb373 hg w78 hbox hb
         have BK373 := Aside0.mk (hbox)
         have GW373 := ge_ hg HB
         have GE373 := ge_ hg HB
         have NB353_373 := nb_ hg BK353
         have NB373_353 := nc_ hg BK353
         have NB354_373 := nb_ hg BK354
         have NB373_354 := nc_ hg BK354
         have NB355_373 := nb_ hg BK355
         have NB373_355 := nc_ hg BK355
         have NB356_373 := nb_ hg BK356
         have NB373_356 := nc_ hg BK356
         replace HO361 := Aside0.mk (Kd.R_below (kr_ HO361.out) hb)
         replace HO363 := Aside0.mk (Kd.R_below (kr_ HO363.out) hb)
         replace HO367 := Aside0.mk (Kd.R_below (kr_ HO367.out) hb)
         replace HO371 := Aside0.mk (Kd.R_below (kr_ HO371.out) hb)
         replace BK353 := kq_ BK353 hb
         replace BK354 := kq_ BK354 hb
         replace BK355 := kq_ BK355 hb
         replace BK356 := kq_ BK356 hb
         replace HB := bq_ HB hb
         clear hb hbox hg
         refine hK.out _ _ ⟨(blk_cell BK353.out 0).trans rfl, (blk_cell BK353.out 1).trans rfl, (blk_cell BK354.out 0).trans rfl, (blk_cell BK354.out 1).trans rfl⟩ (fun hHeld => ?_)
         clear hK K
         refine norm_ (a' := ?_) ?_ ?_
         rotate_left
         ·show Act.put _ (some 11) _ = _
          exact pt_
         exact nr_ (hJ6_10_12 (v366, v370, gb373) _ ⟨hHeld, (kr_ HO361.out), (kr_ HO363.out), (kr_ HO367.out), (kr_ HO371.out), (kb_ BK353.out), (kb_ BK354.out), (kb_ BK355.out), (kb_ BK356.out), (kb_ BK373.out), GW373.out, GE373.out, NB353_373.out, NB373_353.out, NB354_373.out, NB373_354.out, NB355_373.out, NB373_355.out, NB356_373.out, NB373_356.out, (bw_ HB.out)⟩)
      ·skip
       rintro ⟨v366, gb372, gb373⟩ w78 ⟨hS_, h0_, h1_, h2_, h3_, h4_, h5_, h6_, h7_, h8_, h9_, h10_, h11_, h12_, h13_, h14_, h15_, h16_, h17_, h18_, h19_, h20_, h21_, h22_, h23_, h24_, h25_, h26_, h27_, h28_, h29_, h30_, h31_⟩
       have HO367 := Aside0.mk h2_
       have BK372 := Aside0.mk h7_
       have BK373 := Aside0.mk h8_
       have GW372 := Aside0.mk h9_
       have GE372 := Aside0.mk h10_
       have NB353_372 := Aside0.mk h11_
       have NB372_353 := Aside0.mk h12_
       have NB354_372 := Aside0.mk h13_
       have NB372_354 := Aside0.mk h14_
       have NB355_372 := Aside0.mk h15_
       have NB372_355 := Aside0.mk h16_
       have NB356_372 := Aside0.mk h17_
       have NB372_356 := Aside0.mk h18_
       have NB373_372 := Aside0.mk h19_
       have NB372_373 := Aside0.mk h20_
       have GW373 := Aside0.mk h21_
       have GE373 := Aside0.mk h22_
       have NB353_373 := Aside0.mk h23_
       have NB373_353 := Aside0.mk h24_
       have NB354_373 := Aside0.mk h25_
       have NB373_354 := Aside0.mk h26_
       have NB355_373 := Aside0.mk h27_
       have NB373_355 := Aside0.mk h28_
       have NB356_373 := Aside0.mk h29_
       have NB373_356 := Aside0.mk h30_
       replace HO361 := Aside0.mk h0_
       replace HO363 := Aside0.mk h1_
       replace BK353 := Aside0.mk h3_
       replace BK354 := Aside0.mk h4_
       replace BK355 := Aside0.mk h5_
       replace BK356 := Aside0.mk h6_
       replace HB := Aside0.mk h31_
       clear h0_ h1_ h2_ h3_ h4_ h5_ h6_ h7_ h8_ h9_ h10_ h11_ h12_ h13_ h14_ h15_ h16_ h17_ h18_ h19_ h20_ h21_ h22_ h23_ h24_ h25_ h26_ h27_ h28_ h29_ h30_ h31_
       have hHeld : w78.cell? ⟨gb353, 0, none⟩ = some (.bool a0_0) ∧ w78.cell? ⟨gb353, 1, none⟩ = some (.slice A0_1 l0_1.length c0_1) ∧ w78.cell? ⟨gb354, 0, none⟩ = some (.bool a1_0) ∧ w78.cell? ⟨gb354, 1, none⟩ = some (.slice A1_1 l1_1.length c1_1) := hS_
       refine norm_ (a' := ?_) ?_ ?_
       rotate_left
       ·simp only [putAll, Act.put, List.setIfInBounds_toArray, List.set_cons_zero, List.set_cons_succ]
        rfl
       refine one_ (i := 10) (N := some 35) #[true, true, true, true, true, true, true, true, true, true, true, true, true, false, false] rfl rfl (one_of HT_.out (by kernel_rfl)) (by decide) (fun K hK => ?_)
       refine gs_ Try.func16 #[.bool a0_0, .slice Ao73 t358.length co73] ?_
       with_reducible refine (whole_Make.calls k a0_0 _ _ t358 t368 t369 _ ?side1 ?side2 A6.out).mono ?_
       (case side1 => exact kc_ (Kd.R_reads' HO363.out).2.2)
       (case side2 => exact (Kd.R_reads' HO363.out).2.1)
       rintro e w79 ⟨v370, rfl, ho0, hb⟩
       refine ⟨_, rfl, ?_⟩
       have HO371 := Aside0.mk (Kd.R_lower (Kd.R_new' (Kd.R_new' (Kd.R_new' ho0 (Kd.R_lt (kr_ HO361.out))) (Kd.R_lt (kr_ HO363.out))) (Kd.R_lt (kr_ HO367.out))) (below_size (bw_ HB.out)))
       replace HO361 := Aside0.mk (Kd.R_elder' (kr_ HO361.out) (Kd.R_base ho0) hb)
       replace HO363 := Aside0.mk (Kd.R_elder' (kr_ HO363.out) (Kd.R_base ho0) hb)
       replace HO367 := Aside0.mk (Kd.R_elder' (kr_ HO367.out) (Kd.R_base ho0) hb)
       replace BK353 := kq_ BK353 hb
       replace BK354 := kq_ BK354 hb
       replace BK355 := kq_ BK355 hb
       replace BK356 := kq_ BK356 hb
       replace BK372 := kq_ BK372 hb
       replace BK373 := kq_ BK373 hb
       replace HB := bq_ HB hb
       (try clear hb)
       (try clear hb2)
       (try clear hk)
       (try clear hi)
       (try clear ho0)
       refine hK.out _ _ ⟨(blk_cell BK353.out 0).trans rfl, (blk_cell BK353.out 1).trans rfl, (blk_cell BK354.out 0).trans rfl, (blk_cell BK354.out 1).trans rfl⟩ (fun hHeld => ?_)
       clear hK K
       refine norm_ (a' := ?_) ?_ ?_
       rotate_left
       ·show Act.put _ (some 35) _ = _
        exact pt_
       exact nr_ (hJ6_10_11_12 (v366, v370, gb372, gb373) _ ⟨hHeld, (kr_ (Kd.R_mono HO361.out (fun _ hk => by first | exact ⟨hk.1.1, ⟨hk.1.2, hk.2⟩⟩ | simp [hk]))), (kr_ (Kd.R_mono HO363.out (fun _ hk => by first | exact ⟨hk.1.1, ⟨hk.1.2, hk.2⟩⟩ | simp [hk]))), (kr_ (Kd.R_mono HO367.out (fun _ hk => by first | exact ⟨hk.1.1, ⟨hk.1.2, hk.2⟩⟩ | simp [hk]))), (kr_ (Kd.R_mono HO371.out (fun _ hk => by first | exact ⟨hk.1.1.2, ⟨hk.1.2, hk.2⟩⟩ | simp [hk]))), (kb_ BK353.out), (kb_ BK354.out), (kb_ BK355.out), (kb_ BK356.out), (kb_ BK372.out), (kb_ BK373.out), GW372.out, GE372.out, NB353_372.out, NB372_353.out, NB354_372.out, NB372_354.out, NB355_372.out, NB372_355.out, NB356_372.out, NB372_356.out, NB373_372.out, NB372_373.out, GW373.out, GE373.out, NB353_373.out, NB373_353.out, NB354_373.out, NB373_354.out, NB355_373.out, NB373_355.out, NB356_373.out, NB373_356.out, (bw_ HB.out)⟩)
     ·skip
      rintro ⟨v366, v370, gb373⟩ w78 ⟨hS_, h0_, h1_, h2_, h3_, h4_, h5_, h6_, h7_, h8_, h9_, h10_, h11_, h12_, h13_, h14_, h15_, h16_, h17_, h18_, h19_⟩
      have HO367 := Aside0.mk h2_
      have HO371 := Aside0.mk h3_
      have BK373 := Aside0.mk h8_
      have GW373 := Aside0.mk h9_
      have GE373 := Aside0.mk h10_
      have NB353_373 := Aside0.mk h11_
      have NB373_353 := Aside0.mk h12_
      have NB354_373 := Aside0.mk h13_
      have NB373_354 := Aside0.mk h14_
      have NB355_373 := Aside0.mk h15_
      have NB373_355 := Aside0.mk h16_
      have NB356_373 := Aside0.mk h17_
      have NB373_356 := Aside0.mk h18_
      replace HO361 := Aside0.mk h0_
      replace HO363 := Aside0.mk h1_
      replace BK353 := Aside0.mk h4_
      replace BK354 := Aside0.mk h5_
      replace BK355 := Aside0.mk h6_
      replace BK356 := Aside0.mk h7_
      replace HB := Aside0.mk h19_
      clear h0_ h1_ h2_ h3_ h4_ h5_ h6_ h7_ h8_ h9_ h10_ h11_ h12_ h13_ h14_ h15_ h16_ h17_ h18_ h19_
      have hHeld : w78.cell? ⟨gb353, 0, none⟩ = some (.bool a0_0) ∧ w78.cell? ⟨gb353, 1, none⟩ = some (.slice A0_1 l0_1.length c0_1) ∧ w78.cell? ⟨gb354, 0, none⟩ = some (.bool a1_0) ∧ w78.cell? ⟨gb354, 1, none⟩ = some (.slice A1_1 l1_1.length c1_1) := hS_
      refine norm_ (a' := ?_) ?_ ?_
      rotate_left
      ·simp only [putAll, Act.put, List.setIfInBounds_toArray, List.set_cons_zero, List.set_cons_succ]
       rfl
      refine one_ (i := 11) (N := some 10) #[true, true, true, true, true, true, true, true, true, true, true, true, true, false, false] rfl rfl (one_of HT_.out (by kernel_rfl)) (by decide) (fun K hK => ?_)
      refine box_step ?hg (N := 10) ?hd (cs := #[.bool false, .slice none 0 0]) (t := 24) ?hr ?_; (case hd => rfl); (case hg => rfl); (case hr => first | (go_simp; done) | (go_simp; rfl))
      intro gb372 hg w79 hbox hb
      have BK372 := Aside0.mk (hbox)
      have GW372 := ge_ hg HB
      have GE372 := ge_ hg HB
      have NB353_372 := nb_ hg BK353
      have NB372_353 := nc_ hg BK353
      have NB354_372 := nb_ hg BK354
      have NB372_354 := nc_ hg BK354
      have NB355_372 := nb_ hg BK355
      have NB372_355 := nc_ hg BK355
      have NB356_372 := nb_ hg BK356
      have NB372_356 := nc_ hg BK356
      have NB373_372 := nb_ hg BK373
      have NB372_373 := nc_ hg BK373
      replace HO361 := Aside0.mk (Kd.R_below (kr_ HO361.out) hb)
      replace HO363 := Aside0.mk (Kd.R_below (kr_ HO363.out) hb)
      replace HO367 := Aside0.mk (Kd.R_below (kr_ HO367.out) hb)
      replace HO371 := Aside0.mk (Kd.R_below (kr_ HO371.out) hb)
      replace BK353 := kq_ BK353 hb
      replace BK354 := kq_ BK354 hb
      replace BK355 := kq_ BK355 hb
      replace BK356 := kq_ BK356 hb
      replace BK373 := kq_ BK373 hb
      replace HB := bq_ HB hb
      clear hb hbox hg
      refine hK.out _ _ ⟨(blk_cell BK353.out 0).trans rfl, (blk_cell BK353.out 1).trans rfl, (blk_cell BK354.out 0).trans rfl, (blk_cell BK354.out 1).trans rfl⟩ (fun hHeld => ?_)
      clear hK K
      refine norm_ (a' := ?_) ?_ ?_
      rotate_left
      ·show Act.put _ (some 10) _ = _
       exact pt_
      exact nr_ (hJ6_10_11_12 (v366, v370, gb372, gb373) _ ⟨hHeld, (kr_ HO361.out), (kr_ HO363.out), (kr_ HO367.out), (kr_ HO371.out), (kb_ BK353.out), (kb_ BK354.out), (kb_ BK355.out), (kb_ BK356.out), (kb_ BK372.out), (kb_ BK373.out), GW372.out, GE372.out, NB353_372.out, NB372_353.out, NB354_372.out, NB372_354.out, NB355_372.out, NB372_355.out, NB356_372.out, NB372_356.out, NB373_372.out, NB372_373.out, GW373.out, GE373.out, NB353_373.out, NB373_353.out, NB354_373.out, NB373_354.out, NB355_373.out, NB373_355.out, NB356_373.out, NB373_356.out, (bw_ HB.out)⟩)
    ·skip
     rintro ⟨v366, v370, gb372⟩ w78 ⟨hS_, h0_, h1_, h2_, h3_, h4_, h5_, h6_, h7_, h8_, h9_, h10_, h11_, h12_, h13_, h14_, h15_, h16_, h17_, h18_, h19_⟩
     have HO367 := Aside0.mk h2_
     have HO371 := Aside0.mk h3_
     have BK372 := Aside0.mk h8_
     have GW372 := Aside0.mk h9_
     have GE372 := Aside0.mk h10_
     have NB353_372 := Aside0.mk h11_
     have NB372_353 := Aside0.mk h12_
     have NB354_372 := Aside0.mk h13_
     have NB372_354 := Aside0.mk h14_
     have NB355_372 := Aside0.mk h15_
     have NB372_355 := Aside0.mk h16_
     have NB356_372 := Aside0.mk h17_
     have NB372_356 := Aside0.mk h18_
     replace HO361 := Aside0.mk h0_
     replace HO363 := Aside0.mk h1_
     replace BK353 := Aside0.mk h4_
     replace BK354 := Aside0.mk h5_
     replace BK355 := Aside0.mk h6_
     replace BK356 := Aside0.mk h7_
     replace HB := Aside0.mk h19_
     clear h0_ h1_ h2_ h3_ h4_ h5_ h6_ h7_ h8_ h9_ h10_ h11_ h12_ h13_ h14_ h15_ h16_ h17_ h18_ h19_
     have hHeld : w78.cell? ⟨gb353, 0, none⟩ = some (.bool a0_0) ∧ w78.cell? ⟨gb353, 1, none⟩ = some (.slice A0_1 l0_1.length c0_1) ∧ w78.cell? ⟨gb354, 0, none⟩ = some (.bool a1_0) ∧ w78.cell? ⟨gb354, 1, none⟩ = some (.slice A1_1 l1_1.length c1_1) := hS_
     refine norm_ (a' := ?_) ?_ ?_
     rotate_left
     ·simp only [putAll, Act.put, List.setIfInBounds_toArray, List.set_cons_zero, List.set_cons_succ]
      rfl
     refine one_ (i := 12) (N := some 11) #[true, true, true, true, true, true, true, true, true, true, true, true, true, false, false] rfl rfl (one_of HT_.out (by kernel_rfl)) (by decide) (fun K hK => ?_)
     refine box_step ?hg (N := 11) ?hd (cs := #[.bool false, .slice none 0 0]) (t := 24) ?hr ?_; (case hd => rfl); (case hg => rfl); (case hr => first | (go_simp; done) | (go_simp; rfl))
     intro gb373 hg w79 hbox hb
     have BK373 := Aside0.mk (hbox)
     have GW373 := ge_ hg HB
     have GE373 := ge_ hg HB
     have NB353_373 := nb_ hg BK353
     have NB373_353 := nc_ hg BK353
     have NB354_373 := nb_ hg BK354
     have NB373_354 := nc_ hg BK354
     have NB355_373 := nb_ hg BK355
     have NB373_355 := nc_ hg BK355
     have NB356_373 := nb_ hg BK356
     have NB373_356 := nc_ hg BK356
     have NB372_373 := nb_ hg BK372
     have NB373_372 := nc_ hg BK372
     replace HO361 := Aside0.mk (Kd.R_below (kr_ HO361.out) hb)
     replace HO363 := Aside0.mk (Kd.R_below (kr_ HO363.out) hb)
     replace HO367 := Aside0.mk (Kd.R_below (kr_ HO367.out) hb)
     replace HO371 := Aside0.mk (Kd.R_below (kr_ HO371.out) hb)
     replace BK353 := kq_ BK353 hb
     replace BK354 := kq_ BK354 hb
     replace BK355 := kq_ BK355 hb
     replace BK356 := kq_ BK356 hb
     replace BK372 := kq_ BK372 hb
     replace HB := bq_ HB hb
     clear hb hbox hg
     refine hK.out _ _ ⟨(blk_cell BK353.out 0).trans rfl, (blk_cell BK353.out 1).trans rfl, (blk_cell BK354.out 0).trans rfl, (blk_cell BK354.out 1).trans rfl⟩ (fun hHeld => ?_)
     clear hK K
     refine norm_ (a' := ?_) ?_ ?_
     rotate_left
     ·show Act.put _ (some 11) _ = _
      exact pt_
     exact nr_ (hJ6_10_11_12 (v366, v370, gb372, gb373) _ ⟨hHeld, (kr_ HO361.out), (kr_ HO363.out), (kr_ HO367.out), (kr_ HO371.out), (kb_ BK353.out), (kb_ BK354.out), (kb_ BK355.out), (kb_ BK356.out), (kb_ BK372.out), (kb_ BK373.out), GW372.out, GE372.out, NB353_372.out, NB372_353.out, NB354_372.out, NB372_354.out, NB355_372.out, NB372_355.out, NB356_372.out, NB372_356.out, NB373_372.out, NB372_373.out, GW373.out, GE373.out, NB353_373.out, NB373_353.out, NB354_373.out, NB373_354.out, NB355_373.out, NB373_355.out, NB356_373.out, NB373_356.out, (bw_ HB.out)⟩)
   rintro ⟨v366, v370, gb372, gb373⟩ w79 ⟨hS_, h0_, h1_, h2_, h3_, h4_, h5_, h6_, h7_, h8_, h9_, h10_, h11_, h12_, h13_, h14_, h15_, h16_, h17_, h18_, h19_, h20_, h21_, h22_, h23_, h24_, h25_, h26_, h27_, h28_, h29_, h30_, h31_, h32_⟩
   have HO367 := Aside0.mk h2_
   have HO371 := Aside0.mk h3_
   have BK372 := Aside0.mk h8_
   have BK373 := Aside0.mk h9_
   have GW372 := Aside0.mk h10_
   have GE372 := Aside0.mk h11_
   have NB353_372 := Aside0.mk h12_
   have NB372_353 := Aside0.mk h13_
   have NB354_372 := Aside0.mk h14_
   have NB372_354 := Aside0.mk h15_
   have NB355_372 := Aside0.mk h16_
   have NB372_355 := Aside0.mk h17_
   have NB356_372 := Aside0.mk h18_
   have NB372_356 := Aside0.mk h19_
   have NB373_372 := Aside0.mk h20_
   have NB372_373 := Aside0.mk h21_
   have GW373 := Aside0.mk h22_
   have GE373 := Aside0.mk h23_
   have NB353_373 := Aside0.mk h24_
   have NB373_353 := Aside0.mk h25_
   have NB354_373 := Aside0.mk h26_
   have NB373_354 := Aside0.mk h27_
   have NB355_373 := Aside0.mk h28_
   have NB373_355 := Aside0.mk h29_
   have NB356_373 := Aside0.mk h30_
   have NB373_356 := Aside0.mk h31_
   replace HO361 := Aside0.mk h0_
   replace HO363 := Aside0.mk h1_
   replace BK353 := Aside0.mk h4_
   replace BK354 := Aside0.mk h5_
   replace BK355 := Aside0.mk h6_
   replace BK356 := Aside0.mk h7_
   replace HB := Aside0.mk h32_
   clear h0_ h1_ h2_ h3_ h4_ h5_ h6_ h7_ h8_ h9_ h10_ h11_ h12_ h13_ h14_ h15_ h16_ h17_ h18_ h19_ h20_ h21_ h22_ h23_ h24_ h25_ h26_ h27_ h28_ h29_ h30_ h31_ h32_
   have hHeld : w79.cell? ⟨gb353, 0, none⟩ = some (.bool a0_0) ∧ w79.cell? ⟨gb353, 1, none⟩ = some (.slice A0_1 l0_1.length c0_1) ∧ w79.cell? ⟨gb354, 0, none⟩ = some (.bool a1_0) ∧ w79.cell? ⟨gb354, 1, none⟩ = some (.slice A1_1 l1_1.length c1_1) := hS_
   obtain ⟨Ao81, co81, eo81⟩ := Kd.R_slice HO367.out
   (first | subst eo81 | (injection eo81 with f1_ f2_ f3_; have f4_ := f1_.symm; have f5_ := f3_.symm; clear f1_ f2_ f3_; subst f4_; subst f5_))
   obtain ⟨Ao84, co84, eo84⟩ := Kd.R_slice HO371.out
   (first | subst eo84 | (injection eo84 with f1_ f2_ f3_; have f4_ := f1_.symm; have f5_ := f3_.symm; clear f1_ f2_ f3_; subst f4_; subst f5_))
   refine norm_ (a' := ?_) ?_ ?_
   rotate_left
   ·simp only [putAll, Act.put, List.setIfInBounds_toArray, List.set_cons_zero, List.set_cons_succ]
    rfl
   refine one_ (i := 13) (N := none) #[true, true, true, true, true, true, true, true, true, true, true, true, true, true, false] rfl rfl (one_of HT_.out (by kernel_rfl)) (by decide) (fun K hK => ?_)
   have hs80 : w79.cell? ⟨gb372, 0, none⟩ = some (.bool false) := (blk_cell BK372.out 0).trans rfl
   have hfs80 := fz_ BK372 0
   have hns80_0 := NB353_372.out
   have hns80_1 := NB354_372.out
   have hns80_2 := NB355_372.out
   have hns80_3 := NB356_372.out
   have hns80_5 := NB373_372.out
   have hms80_0 := NB372_353.out
   have hms80_1 := NB372_354.out
   have hms80_2 := NB372_355.out
   have hms80_3 := NB372_356.out
   have hms80_5 := NB372_373.out
   have hs82 : w79.cell? ⟨gb372, 1, none⟩ = some (.slice none 0 0) := (blk_cell BK372.out 1).trans rfl
   have hfs82 := fz_ BK372 1
   have hns82_0 := NB353_372.out
   have hns82_1 := NB354_372.out
   have hns82_2 := NB355_372.out
   have hns82_3 := NB356_372.out
   have hns82_5 := NB373_372.out
   have hms82_0 := NB372_353.out
   have hms82_1 := NB372_354.out
   have hms82_2 := NB372_355.out
   have hms82_3 := NB372_356.out
   have hms82_5 := NB372_373.out
   refine skip_ (w1 := ?_) (by rfl) rfl ?_ ?_
   rotate_left
   ·go_simp
    rfl
   refine hK.out _ _ ⟨((cell_far (p := ⟨gb372, _, none⟩) NB353_372.out _).trans (((cell_far (p := ⟨gb372, _, none⟩) NB353_372.out _).trans (hHeld.1)))), ((cell_far (p := ⟨gb372, _, none⟩) NB353_372.out _).trans (((cell_far (p := ⟨gb372, _, none⟩) NB353_372.out _).trans (hHeld.2.1)))), ((cell_far (p := ⟨gb372, _, none⟩) NB354_372.out _).trans (((cell_far (p := ⟨gb372, _, none⟩) NB354_372.out _).trans (hHeld.2.2.1)))), ((cell_far (p := ⟨gb372, _, none⟩) NB354_372.out _).trans (((cell_far (p := ⟨gb372, _, none⟩) NB354_372.out _).trans (hHeld.2.2.2))))⟩ (fun hHeld => ?_)
   clear hK K
   refine one_ (i := 14) (N := none) #[true, true, true, true, true, true, true, true, true, true, true, true, true, true, true] rfl rfl (one_of HT_.out (by kernel_rfl)) (by decide) (fun K hK => ?_)
   have hs83 : w79.cell? ⟨gb373, 0, none⟩ = some (.bool false) := (blk_cell BK373.out 0).trans rfl
   have hfs83 := fz_ BK373 0
   have hns83_0 := NB353_373.out
   have hns83_1 := NB354_373.out
   have hns83_2 := NB355_373.out
   have hns83_3 := NB356_373.out
   have hns83_4 := NB372_373.out
   have hms83_0 := NB373_353.out
   have hms83_1 := NB373_354.out
   have hms83_2 := NB373_355.out
   have hms83_3 := NB373_356.out
   have hms83_4 := NB373_372.out
   have hs85 : w79.cell? ⟨gb373, 1, none⟩ = some (.slice none 0 0) := (blk_cell BK373.out 1).trans rfl
   have hfs85 := fz_ BK373 1
   have hns85_0 := NB353_373.out
   have hns85_1 := NB354_373.out
   have hns85_2 := NB355_373.out
   have hns85_3 := NB356_373.out
   have hns85_4 := NB372_373.out
   have hms85_0 := NB373_353.out
   have hms85_1 := NB373_354.out
   have hms85_2 := NB373_355.out
   have hms85_3 := NB373_356.out
   have hms85_4 := NB373_372.out
   refine skip_ (w1 := ?_) (by rfl) rfl ?_ ?_
   rotate_left
   ·go_simp
    rfl
   refine hK.out _ _ ⟨((cell_far (p := ⟨gb373, _, none⟩) NB353_373.out _).trans (((cell_far (p := ⟨gb373, _, none⟩) NB353_373.out _).trans (hHeld.1)))), ((cell_far (p := ⟨gb373, _, none⟩) NB353_373.out _).trans (((cell_far (p := ⟨gb373, _, none⟩) NB353_373.out _).trans (hHeld.2.1)))), ((cell_far (p := ⟨gb373, _, none⟩) NB354_373.out _).trans (((cell_far (p := ⟨gb373, _, none⟩) NB354_373.out _).trans (hHeld.2.2.1)))), ((cell_far (p := ⟨gb373, _, none⟩) NB354_373.out _).trans (((cell_far (p := ⟨gb373, _, none⟩) NB354_373.out _).trans (hHeld.2.2.2))))⟩ (fun hHeld => ?_)
   clear hK K
   refine done_ (done_of HT_.out (by kernel_rfl)) ?_
   try go_wp2
   have n0_ : Aside0 (Kd.R (Kd.int .u32) 47 ((((w79.setCell ⟨gb372, 0, none⟩ (.bool t364)).setCell ⟨gb372, 1, none⟩ (.slice Ao81 t365.length co81)).setCell ⟨gb373, 0, none⟩ (.bool t368)).setCell ⟨gb373, 1, none⟩ (.slice Ao84 t369.length co84)) w.heap.size (fun k_ => some k_ ≠ (.slice Ao73 t358.length co73 : Value).ownBlock ∧ some k_ ≠ (.slice Ao81 t365.length co81 : Value).ownBlock ∧ some k_ ≠ (.slice Ao84 t369.length co84 : Value).ownBlock) (.slice Ao72 t357.length co72) t357) := ⟨by (with_reducible repeat (first | apply Kd.R_alloc | apply Kd.R_drewN | apply Kd.R_drew)); exact Kd.R_mono (Kd.R_far (p := ⟨gb373, 1, none⟩) (Kd.R_far (p := ⟨gb373, 0, none⟩) (Kd.R_far (p := ⟨gb372, 1, none⟩) (Kd.R_far (p := ⟨gb372, 0, none⟩) (Kd.R_types (Kd.R_types HO361.out BK372.out (by decide)) BK373.out (by decide)) (fun _ hk => hk.1.2) (.bool t364)) (fun _ hk => hk.1.2) (.slice Ao81 t365.length co81)) (fun _ hk => hk.2) (.bool t368)) (fun _ hk => hk.2) (.slice Ao84 t369.length co84)) (fun _ hk => by first | exact ⟨hk.1.1.1, ⟨hk.1.1.2.1, hk.1.1.2.2⟩⟩ | simp [hk])⟩
   have n1_ : Aside0 (Kd.R (Kd.int .u32) 47 ((((w79.setCell ⟨gb372, 0, none⟩ (.bool t364)).setCell ⟨gb372, 1, none⟩ (.slice Ao81 t365.length co81)).setCell ⟨gb373, 0, none⟩ (.bool t368)).setCell ⟨gb373, 1, none⟩ (.slice Ao84 t369.length co84)) w.heap.size (fun k_ => some k_ ≠ (.slice Ao72 t357.length co72 : Value).ownBlock ∧ some k_ ≠ (.slice Ao81 t365.length co81 : Value).ownBlock ∧ some k_ ≠ (.slice Ao84 t369.length co84 : Value).ownBlock) (.slice Ao73 t358.length co73) t358) := ⟨by (with_reducible repeat (first | apply Kd.R_alloc | apply Kd.R_drewN | apply Kd.R_drew)); exact Kd.R_mono (Kd.R_far (p := ⟨gb373, 1, none⟩) (Kd.R_far (p := ⟨gb373, 0, none⟩) (Kd.R_far (p := ⟨gb372, 1, none⟩) (Kd.R_far (p := ⟨gb372, 0, none⟩) (Kd.R_types (Kd.R_types HO363.out BK372.out (by decide)) BK373.out (by decide)) (fun _ hk => hk.1.2) (.bool t364)) (fun _ hk => hk.1.2) (.slice Ao81 t365.length co81)) (fun _ hk => hk.2) (.bool t368)) (fun _ hk => hk.2) (.slice Ao84 t369.length co84)) (fun _ hk => by first | exact ⟨hk.1.1.1, ⟨hk.1.1.2.1, hk.1.1.2.2⟩⟩ | simp [hk])⟩
   have n2_ : Aside0 (Kd.R (Kd.int .u32) 47 ((((w79.setCell ⟨gb372, 0, none⟩ (.bool t364)).setCell ⟨gb372, 1, none⟩ (.slice Ao81 t365.length co81)).setCell ⟨gb373, 0, none⟩ (.bool t368)).setCell ⟨gb373, 1, none⟩ (.slice Ao84 t369.length co84)) w.heap.size (fun k_ => some k_ ≠ (.slice Ao72 t357.length co72 : Value).ownBlock ∧ some k_ ≠ (.slice Ao73 t358.length co73 : Value).ownBlock ∧ some k_ ≠ (.slice Ao84 t369.length co84 : Value).ownBlock) (.slice Ao81 t365.length co81) t365) := ⟨by (with_reducible repeat (first | apply Kd.R_alloc | apply Kd.R_drewN | apply Kd.R_drew)); exact Kd.R_mono (Kd.R_far (p := ⟨gb373, 1, none⟩) (Kd.R_far (p := ⟨gb373, 0, none⟩) (Kd.R_far (p := ⟨gb372, 1, none⟩) (Kd.R_far (p := ⟨gb372, 0, none⟩) (Kd.R_types (Kd.R_types HO367.out BK372.out (by decide)) BK373.out (by decide)) (fun _ hk => hk.1.2) (.bool t364)) (fun _ hk => hk.1.2) (.slice Ao81 t365.length co81)) (fun _ hk => hk.2) (.bool t368)) (fun _ hk => hk.2) (.slice Ao84 t369.length co84)) (fun _ hk => by first | exact ⟨hk.1.1.1, ⟨hk.1.1.2.1, hk.1.1.2.2⟩⟩ | simp [hk])⟩
   have n3_ : Aside0 (Kd.R (Kd.int .u32) 47 ((((w79.setCell ⟨gb372, 0, none⟩ (.bool t364)).setCell ⟨gb372, 1, none⟩ (.slice Ao81 t365.length co81)).setCell ⟨gb373, 0, none⟩ (.bool t368)).setCell ⟨gb373, 1, none⟩ (.slice Ao84 t369.length co84)) w.heap.size (fun k_ => some k_ ≠ (.slice Ao72 t357.length co72 : Value).ownBlock ∧ some k_ ≠ (.slice Ao73 t358.length co73 : Value).ownBlock ∧ some k_ ≠ (.slice Ao81 t365.length co81 : Value).ownBlock) (.slice Ao84 t369.length co84) t369) := ⟨by (with_reducible repeat (first | apply Kd.R_alloc | apply Kd.R_drewN | apply Kd.R_drew)); exact Kd.R_mono (Kd.R_far (p := ⟨gb373, 1, none⟩) (Kd.R_far (p := ⟨gb373, 0, none⟩) (Kd.R_far (p := ⟨gb372, 1, none⟩) (Kd.R_far (p := ⟨gb372, 0, none⟩) (Kd.R_types (Kd.R_types HO371.out BK372.out (by decide)) BK373.out (by decide)) (fun _ hk => hk.1.2) (.bool t364)) (fun _ hk => hk.1.2) (.slice Ao81 t365.length co81)) (fun _ hk => hk.2) (.bool t368)) (fun _ hk => hk.2) (.slice Ao84 t369.length co84)) (fun _ hk => by first | exact ⟨hk.1.1.1, ⟨hk.1.1.2.1, hk.1.1.2.2⟩⟩ | simp [hk])⟩
   have n4_ : Aside0 (((((w79.setCell ⟨gb372, 0, none⟩ (.bool t364)).setCell ⟨gb372, 1, none⟩ (.slice Ao81 t365.length co81)).setCell ⟨gb373, 0, none⟩ (.bool t368)).setCell ⟨gb373, 1, none⟩ (.slice Ao84 t369.length co84)).heap[gb353]? = some (.cells #[.bool a0_0, .slice A0_1 l0_1.length c0_1] 24 (0, 0))) := ⟨by refine kb_ ?_; refine bf_ NB353_373 ?_; refine bf_ NB353_373 ?_; refine bf_ NB353_372 ?_; refine bf_ NB353_372 ?_; exact BK353.out⟩
   have n5_ : Aside0 (((((w79.setCell ⟨gb372, 0, none⟩ (.bool t364)).setCell ⟨gb372, 1, none⟩ (.slice Ao81 t365.length co81)).setCell ⟨gb373, 0, none⟩ (.bool t368)).setCell ⟨gb373, 1, none⟩ (.slice Ao84 t369.length co84)).heap[gb354]? = some (.cells #[.bool a1_0, .slice A1_1 l1_1.length c1_1] 24 (0, 0))) := ⟨by refine kb_ ?_; refine bf_ NB354_373 ?_; refine bf_ NB354_373 ?_; refine bf_ NB354_372 ?_; refine bf_ NB354_372 ?_; exact BK354.out⟩
   have n6_ : Aside0 (((((w79.setCell ⟨gb372, 0, none⟩ (.bool t364)).setCell ⟨gb372, 1, none⟩ (.slice Ao81 t365.length co81)).setCell ⟨gb373, 0, none⟩ (.bool t368)).setCell ⟨gb373, 1, none⟩ (.slice Ao84 t369.length co84)).heap[gb355]? = some (.cells #[.bool false, .slice none 0 0] 24 (0, 0))) := ⟨by refine kb_ ?_; refine bf_ NB355_373 ?_; refine bf_ NB355_373 ?_; refine bf_ NB355_372 ?_; refine bf_ NB355_372 ?_; exact BK355.out⟩
   have n7_ : Aside0 (((((w79.setCell ⟨gb372, 0, none⟩ (.bool t364)).setCell ⟨gb372, 1, none⟩ (.slice Ao81 t365.length co81)).setCell ⟨gb373, 0, none⟩ (.bool t368)).setCell ⟨gb373, 1, none⟩ (.slice Ao84 t369.length co84)).heap[gb356]? = some (.cells #[.bool false, .slice none 0 0] 24 (0, 0))) := ⟨by refine kb_ ?_; refine bf_ NB356_373 ?_; refine bf_ NB356_373 ?_; refine bf_ NB356_372 ?_; refine bf_ NB356_372 ?_; exact BK356.out⟩
   have n8_ : Aside0 (((((w79.setCell ⟨gb372, 0, none⟩ (.bool t364)).setCell ⟨gb372, 1, none⟩ (.slice Ao81 t365.length co81)).setCell ⟨gb373, 0, none⟩ (.bool t368)).setCell ⟨gb373, 1, none⟩ (.slice Ao84 t369.length co84)).heap[gb372]? = some (.cells #[.bool t364, .slice Ao81 t365.length co81] 24 (0, 0))) := ⟨by refine kb_ ?_; refine bf_ NB372_373 ?_; refine bf_ NB372_373 ?_; refine bp_ #[.bool t364, .slice none 0 0] 1 ?_; refine bp_ #[.bool false, .slice none 0 0] 0 ?_; exact BK372.out⟩
   have n9_ : Aside0 (((((w79.setCell ⟨gb372, 0, none⟩ (.bool t364)).setCell ⟨gb372, 1, none⟩ (.slice Ao81 t365.length co81)).setCell ⟨gb373, 0, none⟩ (.bool t368)).setCell ⟨gb373, 1, none⟩ (.slice Ao84 t369.length co84)).heap[gb373]? = some (.cells #[.bool t368, .slice Ao84 t369.length co84] 24 (0, 0))) := ⟨by refine kb_ ?_; refine bp_ #[.bool t368, .slice none 0 0] 1 ?_; refine bp_ #[.bool false, .slice none 0 0] 0 ?_; refine bf_ NB373_372 ?_; refine bf_ NB373_372 ?_; exact BK373.out⟩
   have n10_ : Aside0 (Below w.heap.size w ((((w79.setCell ⟨gb372, 0, none⟩ (.bool t364)).setCell ⟨gb372, 1, none⟩ (.slice Ao81 t365.length co81)).setCell ⟨gb373, 0, none⟩ (.bool t368)).setCell ⟨gb373, 1, none⟩ (.slice Ao84 t369.length co84))) := ⟨bw_ HB.out⟩
   (try clear HO361)
   (try clear HO363)
   (try clear HO367)
   (try clear HO371)
   (try clear BK353)
   (try clear BK354)
   (try clear BK355)
   (try clear BK356)
   (try clear BK372)
   (try clear BK373)
   (try clear HB)
   generalize ((((w79.setCell ⟨gb372, 0, none⟩ (.bool t364)).setCell ⟨gb372, 1, none⟩ (.slice Ao81 t365.length co81)).setCell ⟨gb373, 0, none⟩ (.bool t368)).setCell ⟨gb373, 1, none⟩ (.slice Ao84 t369.length co84)) = w86 at n0_ n1_ n2_ n3_ n4_ n5_ n6_ n7_ n8_ n9_ n10_ ⊢
   have HO361 := n0_
   have HO363 := n1_
   have HO367 := n2_
   have HO371 := n3_
   have BK353 := n4_
   have BK354 := n5_
   have BK355 := n6_
   have BK356 := n7_
   have BK372 := n8_
   have BK373 := n9_
   have HB := n10_
   clear n0_ n1_ n2_ n3_ n4_ n5_ n6_ n7_ n8_ n9_ n10_
   replace HO361 := Aside0.mk (Kd.R_drew HO361.out)
   replace HO363 := Aside0.mk (Kd.R_drew HO363.out)
   replace HO367 := Aside0.mk (Kd.R_drew HO367.out)
   replace HO371 := Aside0.mk (Kd.R_drew HO371.out)
   replace BK353 := Aside0.mk (blk_drew BK353.out)
   replace BK354 := Aside0.mk (blk_drew BK354.out)
   replace BK355 := Aside0.mk (blk_drew BK355.out)
   replace BK356 := Aside0.mk (blk_drew BK356.out)
   replace BK372 := Aside0.mk (blk_drew BK372.out)
   replace BK373 := Aside0.mk (blk_drew BK373.out)
   replace HB := Aside0.mk (below_drew1 HB.out)
   refine start_ (n := 6) (S := fun w' => w'.cell? ⟨gb373, 0, none⟩ = some (.bool t368) ∧ w'.cell? ⟨gb373, 1, none⟩ = some (.slice Ao84 t369.length co84) ∧ w'.cell? ⟨gb354, 0, none⟩ = some (.bool a1_0) ∧ w'.cell? ⟨gb354, 1, none⟩ = some (.slice A1_1 l1_1.length c1_1)) (ds := []) #[false, false, false, false, false, false] (by kernel_rfl) rfl rfl ⟨(blk_cell BK373.out 0).trans rfl, (blk_cell BK373.out 1).trans rfl, (blk_cell BK354.out 0).trans rfl, (blk_cell BK354.out 1).trans rfl⟩ (fun hHeld => ?_)
   generalize w86.drew = w87 at HO361 HO363 HO367 HO371 BK353 BK354 BK355 BK356 BK372 BK373 HB hHeld ⊢
   refine take_ (i := 0) (N := some 36) (v := ?_) (a' := ?_) #[true, false, false, false, false, false] rfl rfl (by kernel_rfl) (fun _ _ _ h => h) (Or.inl ⟨by rfl, ?_⟩) hHeld ?_ ?_
   rotate_left
   ·rintro w' ⟨s0, s1, s2, s3⟩
    go_simp
    with_reducible rfl
   rotate_left
   ·exact pt_
   refine take_ (i := 2) (N := some 38) (v := ?_) (a' := ?_) #[true, false, true, false, false, false] rfl rfl (by kernel_rfl) (fun _ _ _ h => h) (Or.inl ⟨by rfl, ?_⟩) hHeld ?_ ?_
   rotate_left
   ·rintro w' ⟨s0, s1, s2, s3⟩
    go_simp
    with_reducible rfl
   rotate_left
   ·exact pt_
   refine one_ (i := 1) (N := some 37) #[true, true, true, false, false, false] rfl rfl (by kernel_rfl) (by decide) (fun K hK => ?_)
   refine gs_ Try.func24 #[.agg #[.bool t368, .slice Ao84 t369.length co84]] ?_
   with_reducible refine (whole_Sign.calls k t368 _ _ t369 t374 _ ?side1 ?side2 A7.out).mono ?_
   (case side1 => exact kc_ (Kd.R_reads' HO371.out).2.2)
   (case side2 => exact (Kd.R_reads' HO371.out).2.1)
   rintro e w88 ⟨rfl, hb⟩
   refine ⟨_, rfl, ?_⟩
   replace HO361 := Aside0.mk (Kd.R_below (kr_ HO361.out) hb)
   replace HO363 := Aside0.mk (Kd.R_below (kr_ HO363.out) hb)
   replace HO367 := Aside0.mk (Kd.R_below (kr_ HO367.out) hb)
   replace HO371 := Aside0.mk (Kd.R_below (kr_ HO371.out) hb)
   replace BK353 := kq_ BK353 hb
   replace BK354 := kq_ BK354 hb
   replace BK355 := kq_ BK355 hb
   replace BK356 := kq_ BK356 hb
   replace BK372 := kq_ BK372 hb
   replace BK373 := kq_ BK373 hb
   replace HB := bq_ HB hb
   (try clear hb)
   (try clear hb2)
   (try clear hk)
   (try clear hi)
   refine hK.out _ _ ⟨(blk_cell BK373.out 0).trans rfl, (blk_cell BK373.out 1).trans rfl, (blk_cell BK354.out 0).trans rfl, (blk_cell BK354.out 1).trans rfl⟩ (fun hHeld => ?_)
   clear hK K
   refine norm_ (a' := ?_) ?_ ?_
   rotate_left
   ·show Act.put _ (some 37) _ = _
    exact pt_
   refine one_ (i := 3) (N := some 39) #[true, true, true, true, false, false] rfl rfl (by kernel_rfl) (by decide) (fun K hK => ?_)
   refine gs_ Try.func24 #[.agg #[.bool a1_0, .slice A1_1 l1_1.length c1_1]] ?_
   with_reducible refine (whole_Sign.calls k a1_0 _ _ l1_1 t375 _ ?side1 ?side2 A8.out).mono ?_
   (case side1 => exact kc_ (Kd.C_below HR1_1.out HB.out))
   (case side2 => exact HC1_1.out)
   rintro e w89 ⟨rfl, hb⟩
   refine ⟨_, rfl, ?_⟩
   replace HO361 := Aside0.mk (Kd.R_below (kr_ HO361.out) hb)
   replace HO363 := Aside0.mk (Kd.R_below (kr_ HO363.out) hb)
   replace HO367 := Aside0.mk (Kd.R_below (kr_ HO367.out) hb)
   replace HO371 := Aside0.mk (Kd.R_below (kr_ HO371.out) hb)
   replace BK353 := kq_ BK353 hb
   replace BK354 := kq_ BK354 hb
   replace BK355 := kq_ BK355 hb
   replace BK356 := kq_ BK356 hb
   replace BK372 := kq_ BK372 hb
   replace BK373 := kq_ BK373 hb
   replace HB := bq_ HB hb
   (try clear hb)
   (try clear hb2)
   (try clear hk)
   (try clear hi)
   refine hK.out _ _ ⟨(blk_cell BK373.out 0).trans rfl, (blk_cell BK373.out 1).trans rfl, (blk_cell BK354.out 0).trans rfl, (blk_cell BK354.out 1).trans rfl⟩ (fun hHeld => ?_)
   clear hK K
   refine norm_ (a' := ?_) ?_ ?_
   rotate_left
   ·show Act.put _ (some 39) _ = _
    exact pt_
   refine pure_ (i := 4) (N := some 40) (v := ?_) (a' := ?_) #[true, true, true, true, true, false] rfl rfl (by kernel_rfl) (fun _ _ _ h => h) (Or.inl ⟨by rfl, ?_⟩) ?_ ?_
   rotate_left
   ·intro w'
    go_simp
    with_reducible rfl
   rotate_left
   ·exact pt_
   refine pure_ (i := 5) (N := some 41) (v := ?_) (a' := ?_) #[true, true, true, true, true, true] rfl rfl (by kernel_rfl) (fun _ _ _ h => h) (Or.inl ⟨by rfl, ?_⟩) ?_ ?_
   rotate_left
   ·intro w'
    go_simp
    with_reducible rfl
   rotate_left
   ·exact pt_
   refine done_ (by kernel_rfl) ?_
   try go_wp2
   replace HO361 := Aside0.mk (Kd.R_drew HO361.out)
   replace HO363 := Aside0.mk (Kd.R_drew HO363.out)
   replace HO367 := Aside0.mk (Kd.R_drew HO367.out)
   replace HO371 := Aside0.mk (Kd.R_drew HO371.out)
   replace BK353 := Aside0.mk (blk_drew BK353.out)
   replace BK354 := Aside0.mk (blk_drew BK354.out)
   replace BK355 := Aside0.mk (blk_drew BK355.out)
   replace BK356 := Aside0.mk (blk_drew BK356.out)
   replace BK372 := Aside0.mk (blk_drew BK372.out)
   replace BK373 := Aside0.mk (blk_drew BK373.out)
   replace HB := Aside0.mk (below_drew1 HB.out)
   refine start_ (n := 5) (S := fun w' => w'.cell? ⟨gb372, 0, none⟩ = some (.bool t364) ∧ w'.cell? ⟨gb372, 1, none⟩ = some (.slice Ao81 t365.length co81) ∧ w'.cell? ⟨gb373, 0, none⟩ = some (.bool t368) ∧ w'.cell? ⟨gb373, 1, none⟩ = some (.slice Ao84 t369.length co84)) (ds := []) #[false, false, false, false, false] (by kernel_rfl) rfl rfl ⟨(blk_cell BK372.out 0).trans rfl, (blk_cell BK372.out 1).trans rfl, (blk_cell BK373.out 0).trans rfl, (blk_cell BK373.out 1).trans rfl⟩ (fun hHeld => ?_)
   generalize w89.drew = w90 at HO361 HO363 HO367 HO371 BK353 BK354 BK355 BK356 BK372 BK373 HB hHeld ⊢
   refine take_ (i := 0) (N := some 48) (v := ?_) (a' := ?_) #[true, false, false, false, false] rfl rfl (by kernel_rfl) (fun _ _ _ h => h) (Or.inl ⟨by rfl, ?_⟩) hHeld ?_ ?_
   rotate_left
   ·rintro w' ⟨s0, s1, s2, s3⟩
    go_simp
    with_reducible rfl
   rotate_left
   ·exact pt_
   refine take_ (i := 1) (N := some 49) (v := ?_) (a' := ?_) #[true, true, false, false, false] rfl rfl (by kernel_rfl) (fun _ _ _ h => h) (Or.inl ⟨by rfl, ?_⟩) hHeld ?_ ?_
   rotate_left
   ·rintro w' ⟨s0, s1, s2, s3⟩
    go_simp
    with_reducible rfl
   rotate_left
   ·exact pt_
   refine one_ (i := 2) (N := none) #[true, true, true, false, false] rfl rfl (by kernel_rfl) (by decide) (fun K hK => ?_)
   have hs91 : w90.cell? ⟨gb355, 0, none⟩ = some (.bool false) := (blk_cell BK355.out 0).trans rfl
   have hfs91 := fz_ BK355 0
   have hns91_0 := NB353_355.out
   have hns91_1 := NB354_355.out
   have hns91_3 := NB356_355.out
   have hns91_4 := NB372_355.out
   have hns91_5 := NB373_355.out
   have hms91_0 := NB355_353.out
   have hms91_1 := NB355_354.out
   have hms91_3 := NB355_356.out
   have hms91_4 := NB355_372.out
   have hms91_5 := NB355_373.out
   have hs92 : w90.cell? ⟨gb355, 1, none⟩ = some (.slice none 0 0) := (blk_cell BK355.out 1).trans rfl
   have hfs92 := fz_ BK355 1
   have hns92_0 := NB353_355.out
   have hns92_1 := NB354_355.out
   have hns92_3 := NB356_355.out
   have hns92_4 := NB372_355.out
   have hns92_5 := NB373_355.out
   have hms92_0 := NB355_353.out
   have hms92_1 := NB355_354.out
   have hms92_3 := NB355_356.out
   have hms92_4 := NB355_372.out
   have hms92_5 := NB355_373.out
   refine skip_ (w1 := ?_) (by rfl) rfl ?_ ?_
   rotate_left
   ·go_simp
    rfl
   refine hK.out _ _ ⟨((cell_far (p := ⟨gb355, _, none⟩) NB372_355.out _).trans (((cell_far (p := ⟨gb355, _, none⟩) NB372_355.out _).trans (hHeld.1)))), ((cell_far (p := ⟨gb355, _, none⟩) NB372_355.out _).trans (((cell_far (p := ⟨gb355, _, none⟩) NB372_355.out _).trans (hHeld.2.1)))), ((cell_far (p := ⟨gb355, _, none⟩) NB373_355.out _).trans (((cell_far (p := ⟨gb355, _, none⟩) NB373_355.out _).trans (hHeld.2.2.1)))), ((cell_far (p := ⟨gb355, _, none⟩) NB373_355.out _).trans (((cell_far (p := ⟨gb355, _, none⟩) NB373_355.out _).trans (hHeld.2.2.2))))⟩ (fun hHeld => ?_)
   clear hK K
   refine one_ (i := 3) (N := none) #[true, true, true, true, false] rfl rfl (by kernel_rfl) (by decide) (fun K hK => ?_)
   have hs93 : w90.cell? ⟨gb356, 0, none⟩ = some (.bool false) := (blk_cell BK356.out 0).trans rfl
   have hfs93 := fz_ BK356 0
   have hns93_0 := NB353_356.out
   have hns93_1 := NB354_356.out
   have hns93_2 := NB355_356.out
   have hns93_4 := NB372_356.out
   have hns93_5 := NB373_356.out
   have hms93_0 := NB356_353.out
   have hms93_1 := NB356_354.out
   have hms93_2 := NB356_355.out
   have hms93_4 := NB356_372.out
   have hms93_5 := NB356_373.out
   have hs94 : w90.cell? ⟨gb356, 1, none⟩ = some (.slice none 0 0) := (blk_cell BK356.out 1).trans rfl
   have hfs94 := fz_ BK356 1
   have hns94_0 := NB353_356.out
   have hns94_1 := NB354_356.out
   have hns94_2 := NB355_356.out
   have hns94_4 := NB372_356.out
   have hns94_5 := NB373_356.out
   have hms94_0 := NB356_353.out
   have hms94_1 := NB356_354.out
   have hms94_2 := NB356_355.out
   have hms94_4 := NB356_372.out
   have hms94_5 := NB356_373.out
   refine skip_ (w1 := ?_) (by rfl) rfl ?_ ?_
   rotate_left
   ·go_simp
    rfl
   refine hK.out _ _ ⟨((cell_far (p := ⟨gb356, _, none⟩) NB372_356.out _).trans (((cell_far (p := ⟨gb356, _, none⟩) NB372_356.out _).trans (hHeld.1)))), ((cell_far (p := ⟨gb356, _, none⟩) NB372_356.out _).trans (((cell_far (p := ⟨gb356, _, none⟩) NB372_356.out _).trans (hHeld.2.1)))), ((cell_far (p := ⟨gb356, _, none⟩) NB373_356.out _).trans (((cell_far (p := ⟨gb356, _, none⟩) NB373_356.out _).trans (hHeld.2.2.1)))), ((cell_far (p := ⟨gb356, _, none⟩) NB373_356.out _).trans (((cell_far (p := ⟨gb356, _, none⟩) NB373_356.out _).trans (hHeld.2.2.2))))⟩ (fun hHeld => ?_)
   clear hK K
   refine pure_ (i := 4) (N := some 6) (v := ?_) (a' := ?_) #[true, true, true, true, true] rfl rfl (by kernel_rfl) (fun _ _ _ h => h) (Or.inl ⟨by rfl, ?_⟩) ?_ ?_
   rotate_left
   ·intro w'
    go_simp
    with_reducible rfl
   rotate_left
   ·exact pt_
   refine done_ (by kernel_rfl) ?_
   try go_wp2
   refine bodyPost_ret (results_list (rs := [.cell 4 24, .cell 5 24, .tmp 6]) rfl (by simp) (.cell gb355 24 #[.bool t364, .slice Ao81 t365.length co81] (0, 0) _ rfl (by refine kb_ ?_; refine bf_ NB355_356 ?_; refine bf_ NB355_356 ?_; refine bp_ #[.bool t364, .slice none 0 0] 1 ?_; refine bp_ #[.bool false, .slice none 0 0] 0 ?_; exact BK355.out) Try.underlying24 rfl (by kernel_rfl) (.cell gb356 24 #[.bool t368, .slice Ao84 t369.length co84] (0, 0) _ rfl (by refine kb_ ?_; refine bp_ #[.bool t368, .slice none 0 0] 1 ?_; refine bp_ #[.bool false, .slice none 0 0] 0 ?_; refine bf_ NB356_355 ?_; refine bf_ NB356_355 ?_; exact BK356.out) Try.underlying24 rfl (by kernel_rfl) (.tmp .nil)))) rfl ?_
   exact ⟨_, _, rf_, by (with_reducible repeat (first | apply Kd.R_alloc | apply Kd.R_drewN | apply Kd.R_drew)); exact Kd.R_mono (Kd.R_far (p := ⟨gb356, 1, none⟩) (Kd.R_far (p := ⟨gb356, 0, none⟩) (Kd.R_far (p := ⟨gb355, 1, none⟩) (Kd.R_far (p := ⟨gb355, 0, none⟩) (Kd.R_types (Kd.R_types HO367.out BK355.out (by decide)) BK356.out (by decide)) (fun _ hk => hk.1.2) (.bool t364)) (fun _ hk => hk.1.2) (.slice Ao81 t365.length co81)) (fun _ hk => hk.2) (.bool t368)) (fun _ hk => hk.2) (.slice Ao84 t369.length co84)) (fun _ hk => hk.1.1.2.2), by (with_reducible repeat (first | apply Kd.R_alloc | apply Kd.R_drewN | apply Kd.R_drew)); exact Kd.R_mono (Kd.R_far (p := ⟨gb356, 1, none⟩) (Kd.R_far (p := ⟨gb356, 0, none⟩) (Kd.R_far (p := ⟨gb355, 1, none⟩) (Kd.R_far (p := ⟨gb355, 0, none⟩) (Kd.R_types (Kd.R_types HO371.out BK355.out (by decide)) BK356.out (by decide)) (fun _ hk => hk.1.2) (.bool t364)) (fun _ hk => hk.1.2) (.slice Ao81 t365.length co81)) (fun _ hk => hk.2) (.bool t368)) (fun _ hk => hk.2) (.slice Ao84 t369.length co84)) (fun _ hk => hk.1.1.2.2), bw_ HB.out⟩
 ·replace c4 := Bool.eq_false_iff.mpr c4
  subst c4
  have H1 : (some (false, ([] : List Int), false, ([] : List Int), false)) = some (r1, r2, r3, r4, r5) := by rw [if_neg (show ¬ (false = true) by decide)] at H; exact H
  clear H
  have H := H1
  clear H1
  simp only [Option.some.injEq, Prod.mk.injEq] at H
  obtain ⟨rfl, rfl, rfl, rfl, rfl⟩ := H
  go_enter Try.func11, Try.ntmps11
  go_wp2_with (first | ((with_reducible refine gate_dst (N := 2) rfl ?_); refine bx_ 2 #[.bool a0_0, .slice A0_1 l0_1.length c0_1] 24 ?_; intro gb353 hg w95 hbox hb; have BK353 := Aside0.mk (hbox); have GW353 := ge_ hg HB; have GE353 := ge_ hg HB; replace HB := bq_ HB hb; clear hb hbox hg) | ((with_reducible refine gate_dst (N := 3) rfl ?_); refine bx_ 3 #[.bool a1_0, .slice A1_1 l1_1.length c1_1] 24 ?_; intro gb354 hg w96 hbox hb; have BK354 := Aside0.mk (hbox); have GW354 := ge_ hg HB; have GE354 := ge_ hg HB; have NB353_354 := nb_ hg BK353; have NB354_353 := nc_ hg BK353; replace BK353 := kq_ BK353 hb; replace HB := bq_ HB hb; clear hb hbox hg) | ((with_reducible refine gate_dst (N := 4) rfl ?_); refine bx_ 4 #[.bool false, .slice none 0 0] 24 ?_; intro gb355 hg w97 hbox hb; have BK355 := Aside0.mk (hbox); have GW355 := ge_ hg HB; have GE355 := ge_ hg HB; have NB353_355 := nb_ hg BK353; have NB355_353 := nc_ hg BK353; have NB354_355 := nb_ hg BK354; have NB355_354 := nc_ hg BK354; replace BK353 := kq_ BK353 hb; replace BK354 := kq_ BK354 hb; replace HB := bq_ HB hb; clear hb hbox hg) | ((with_reducible refine gate_dst (N := 5) rfl ?_); refine bx_ 5 #[.bool false, .slice none 0 0] 24 ?_; intro gb356 hg w98 hbox hb; have BK356 := Aside0.mk (hbox); have GW356 := ge_ hg HB; have GE356 := ge_ hg HB; have NB353_356 := nb_ hg BK353; have NB356_353 := nc_ hg BK353; have NB354_356 := nb_ hg BK354; have NB356_354 := nc_ hg BK354; have NB355_356 := nb_ hg BK355; have NB356_355 := nc_ hg BK355; replace BK353 := kq_ BK353 hb; replace BK354 := kq_ BK354 hb; replace BK355 := kq_ BK355 hb; replace HB := bq_ HB hb; clear hb hbox hg; have hnb99 := NB353_354.out; have hnc99 := NB354_353.out; have hnb100 := NB353_355.out; have hnc100 := NB355_353.out; have hnb101 := NB353_356.out; have hnc101 := NB356_353.out; obtain ⟨hcz102_0, hcz102_1, hfz102_0, hfz102_1⟩ := c2_ BK353; have hnb103 := NB354_355.out; have hnc103 := NB355_354.out; have hnb104 := NB354_356.out; have hnc104 := NB356_354.out; obtain ⟨hcz105_0, hcz105_1, hfz105_0, hfz105_1⟩ := c2_ BK354) | ((with_reducible refine gate_callee (f := 35) rfl ?_); refine gl_ (some 17) Try.func35 #[.slice A0_1 l0_1.length c0_1, .slice A1_1 l1_1.length c1_1] ?_; (with_reducible refine (nat_Div.calls k _ _ l0_1 _ _ l1_1 t357 t358 false _ ?side1 ?side2 ?side3 ?side4 A3.out).mono ?_); (case side1 => exact kc_ (Kd.C_below HR0_1.out HB.out)); (case side2 => exact HC0_1.out); (case side3 => exact kc_ (Kd.C_below HR1_1.out HB.out)); (case side4 => exact HC1_1.out); rintro e w106 ⟨v360, v362, rfl, ho0, ho1, hb⟩; refine ⟨_, rfl, ?_⟩; have HO361 := Aside0.mk (Kd.R_lower ho0 (below_size (bw_ HB.out))); have HO363 := Aside0.mk (Kd.R_lower ho1 (below_size (bw_ HB.out))); replace BK353 := kq_ BK353 hb; replace BK354 := kq_ BK354 hb; replace BK355 := kq_ BK355 hb; replace BK356 := kq_ BK356 hb; replace HB := bq_ HB hb; (try clear hb); (try clear hb2); (try clear hk); (try clear hi); (try clear ho0); (try clear ho1); have hnb107 := NB355_356.out; have hnc107 := NB356_355.out; obtain ⟨hcz108_0, hcz108_1, hfz108_0, hfz108_1⟩ := c2_ BK355; obtain ⟨hcz109_0, hcz109_1, hfz109_0, hfz109_1⟩ := c2_ BK356))
  refine bodyPost_ret (results_list (rs := [.cell 4 24, .cell 5 24, .tmp 6]) rfl (by simp) (.cell gb355 24 #[.bool false, .slice none 0 0] (0, 0) _ rfl (by refine kb_ ?_; refine bf_ NB355_356 ?_; refine bf_ NB355_356 ?_; refine bp_ #[.bool false, .slice none 0 0] 1 ?_; refine bp_ #[.bool false, .slice none 0 0] 0 ?_; exact BK355.out) Try.underlying24 rfl (by kernel_rfl) (.cell gb356 24 #[.bool false, .slice none 0 0] (0, 0) _ rfl (by refine kb_ ?_; refine bp_ #[.bool false, .slice none 0 0] 1 ?_; refine bp_ #[.bool false, .slice none 0 0] 0 ?_; refine bf_ NB356_355 ?_; refine bf_ NB356_355 ?_; exact BK356.out) Try.underlying24 rfl (by kernel_rfl) (.tmp .nil)))) rfl ?_
  exact ⟨_, _, rf_, by first | exact Kd.R_nil _ _ _ _ _ | exact Kd.N_nil _ _ _ _ _ | exact Kd.V_nil _ _ _ _ _ | exact Kd.Q_nil _ _ _ _ _ | exact Kd.S_nil _ _ _ _ _, by first | exact Kd.R_nil _ _ _ _ _ | exact Kd.N_nil _ _ _ _ _ | exact Kd.V_nil _ _ _ _ _ | exact Kd.Q_nil _ _ _ _ _ | exact Kd.S_nil _ _ _ _ _, bw_ HB.out⟩

end Go.Proofs.Ytbejmpocgnldnaa.PZ
