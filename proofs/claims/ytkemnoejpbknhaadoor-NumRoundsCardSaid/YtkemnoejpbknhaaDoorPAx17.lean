-- Laid by this work's own program; Lean checks it.
import Derived.Test.YtkemnoejpbknhaaDoorPAx0
import Derived.Test.YtkemnoejpbknhaaDoorPAx2
import Derived.Test.YtkemnoejpbknhaaDoorPAx12
import Derived.Test.YtkemnoejpbknhaaDoorPAx13
import Derived.Test.YtkemnoejpbknhaaDoorPAx16
namespace Go.Proofs.YtkemnoejpbknhaaDoor.PA
open Go.RowKit Go.Proofs.YtkemnoejpbknhaaDoorW.PrintWords Go.Proofs.YtkemnoejpbknhaaDoorW.PrintLast Go.Proofs.YtkemnoejpbknhaaDoorW.PrintMore
attribute [local go_sem] max2_int min2_int max_two min_two max_three min_three max_four min_four   -- for this text's walks alone
set_option linter.unusedVariables false
set_option linter.unusedSimpArgs false

attribute [local go_sem ↓ high] isSome_set_
/-! ### pelorusref05_Round: function 13 -/
theorem pelorusref05_Round.tab7 : rtab .any (opsOf Tryd.f13 7) = pelorusref05_Round.T7 := by kernel_rfl
theorem pelorusref05_Round.bits7 : waitsOk pelorusref05_Round.T7.2 pelorusref05_Round.B7 = true := by kernel_rfl
def pelorusref05_Round.T15 : Bool × List (List Nat × List Nat) := (true, [([], []), ([0], [0]), ([1], [1]), ([], []), ([3], [3]), ([], []), ([], []), ([2, 4, 5, 6, 4], [2, 4, 5, 6]), ([7, 7, 0, 1, 2, 3, 4, 5, 6, 7], [7])])
def pelorusref05_Round.B15 : List Nat := [0, 1, 3, 0, 8, 0, 0, 127, 255]
theorem pelorusref05_Round.tab15 : rtab .any (opsOf Tryd.f13 15) = pelorusref05_Round.T15 := by kernel_rfl
theorem pelorusref05_Round.bits15 : waitsOk pelorusref05_Round.T15.2 pelorusref05_Round.B15 = true := by kernel_rfl
set_option maxHeartbeats 8000000 in
set_option maxRecDepth 100000 in
theorem pelorusref05_Round.calls (k : Nat) (a0_0 : Bool) (A0_1 : Option Addr) (c0_1 : Nat) (l0_1 : List Int) (a0_2 : Int) (a1 : Bool) (r1 : Int) (r2 : Bool) (r3 : Int) (r4 : Int) (w : World) (hr0_1 : Kd.C (Kd.int .u32) w A0_1 l0_1.length l0_1) (hc0_1 : l0_1.length ≤ c0_1) (h : pelorusref05_Round.f k a0_0 l0_1 a0_2 a1 = some (r1, r2, r3, r4)) :
  Calls Tryd.prog 13 #[.agg #[.bool a0_0, .slice A0_1 l0_1.length c0_1, .int .i64 a0_2], .bool a1] w fun e w' => e = .returned (.agg #[.int .i64 r1, .bool r2, .int .u64 r3, .int .i64 r4]) ∧ Below w.heap.size w w' := by
 have hu26 := Tryd.underlying26
 have hu30 := Tryd.underlying30
 have hu24 := Tryd.underlying24
 have HR0_1 := Aside0.mk hr0_1
 have HC0_1 := Aside0.mk hc0_1
 clear hr0_1 hc0_1
 have HB := Aside0.mk (Below.refl w.heap.size w)
 have H : ((pelorusref03_Make.f k a0_0 l0_1 a0_2).bind fun bt433 => (if (bt433.2.1.length : Int) = 0 then (some (0, false, 0, 0)) else ((pelorusref01_Len.f k bt433.2.1).bind fun t439 => (if t439 ≤ 64 then ((pelorusref01_Shl.f k bt433.2.1 (wrap64 (64 - t439))).bind fun t440 => ((pelorusref05_word.f k t440).bind fun t443 => ((pelorusref05_finite.f bt433.1 t443 (wrap64 ((wrap64 (bt433.2.2 + t439)) - 64)) (a1 != bt433.1)).bind fun bt444 => (some (bt444.1, bt444.2.1, bt444.2.2.1, bt444.2.2.2))))) else ((pelorusref01_Shr.f k bt433.2.1 (wrap64 (t439 - 64))).bind fun t448 => (if (a1 != bt433.1) = true then ((pelorusref01_Add.f k t448 (([1] : List Int))).bind fun t454 => ((pelorusref01_Len.f k t454).bind fun t457 => (if t457 > 64 then ((pelorusref01_Shr.f k t454 1).bind fun t458 => ((pelorusref05_word.f k t458).bind fun t461 => ((pelorusref05_finite.f bt433.1 t461 (wrap64 ((wrap64 ((wrap64 (bt433.2.2 + t439)) - 64)) + 1)) (a1 != bt433.1)).bind fun bt462 => (some (bt462.1, bt462.2.1, bt462.2.2.1, bt462.2.2.2))))) else ((pelorusref05_word.f k t454).bind fun t466 => ((pelorusref05_finite.f bt433.1 t466 (wrap64 ((wrap64 (bt433.2.2 + t439)) - 64)) (a1 != bt433.1)).bind fun bt467 => (some (bt467.1, bt467.2.1, bt467.2.2.1, bt467.2.2.2))))))) else ((pelorusref05_word.f k t448).bind fun t471 => ((pelorusref05_finite.f bt433.1 t471 (wrap64 ((wrap64 (bt433.2.2 + t439)) - 64)) (a1 != bt433.1)).bind fun bt472 => (some (bt472.1, bt472.2.1, bt472.2.2.1, bt472.2.2.2)))))))))) = some (r1, r2, r3, r4) := h
 clear h
 replace H := Option.bind_eq_some_iff.mp H
 obtain ⟨⟨t433, t434, t437⟩, A30, H⟩ := H
 (try dsimp only at H)
 have A3 := Aside0.mk A30
 clear A30
 by_cases c4 : (t434.length : Int) = 0
 ·rw [if_pos c4] at H
  have c4b0 : ((t434.length : Int) == 0) = true := beq_iff_eq.mpr c4
  have c4b1 : ((t434.length : Int) != 0) = false := bne_eq_false_iff_eq.mpr c4
  clear c4
  simp only [Option.some.injEq, Prod.mk.injEq] at H
  obtain ⟨rfl, rfl, rfl, rfl⟩ := H
  go_enter Tryd.func13, Tryd.ntmps13
  go_wp2_with (first | ((with_reducible refine gate_dst (N := 2) rfl ?_); refine bx_ 2 #[.bool a0_0, .slice A0_1 l0_1.length c0_1, .int .i64 a0_2] 26 ?_; intro gb431 hg w5 hbox hb; have BK431 := Aside0.mk (hbox); have GW431 := ge_ hg HB; have GE431 := ge_ hg HB; replace HB := bq_ HB hb; clear hb hbox hg) | ((with_reducible refine gate_dst (N := 4) rfl ?_); refine bx_ 4 #[.int .i64 0, .bool false, .int .u64 0, .int .i64 0] 30 ?_; intro gb432 hg w6 hbox hb; have BK432 := Aside0.mk (hbox); have GW432 := ge_ hg HB; have GE432 := ge_ hg HB; have NB431_432 := nb_ hg BK431; have NB432_431 := nc_ hg BK431; replace BK431 := kq_ BK431 hb; replace HB := bq_ HB hb; clear hb hbox hg; have hnb7 := NB431_432.out; have hnc7 := NB432_431.out; obtain ⟨hcz8_0, hcz8_1, hcz8_2, hfz8_0, hfz8_1, hfz8_2⟩ := c3_ BK431) | ((with_reducible refine gate_callee (f := 44) rfl ?_); refine gl_ (some 14) Tryd.func44 #[.agg #[.bool a0_0, .slice A0_1 l0_1.length c0_1], .int .i64 a0_2] ?_; (with_reducible refine (pelorusref03_Make.calls k a0_0 _ _ l0_1 a0_2 t433 t434 t437 _ ?side1 ?side2 A3.out).mono ?_); (case side1 => exact kc_ (Kd.C_below HR0_1.out HB.out)); (case side2 => exact HC0_1.out); rintro e w9 ⟨v435, rfl, ho0, hb⟩; refine ⟨_, rfl, ?_⟩; have HO436 := Aside0.mk (Kd.R_lower ho0 (below_size (bw_ HB.out))); replace BK431 := kq_ BK431 hb; replace BK432 := kq_ BK432 hb; replace HB := bq_ HB hb; (try clear hb); (try clear hb2); (try clear hk); (try clear hi); (try clear ho0)) | ((with_reducible refine gate_dst (N := 5) rfl ?_); refine bx_ 5 #[.bool false, .slice none 0 0, .int .i64 0] 26 ?_; intro gb438 hg w10 hbox hb; have BK438 := Aside0.mk (hbox); have GW438 := ge_ hg HB; have GE438 := ge_ hg HB; have NB431_438 := nb_ hg BK431; have NB438_431 := nc_ hg BK431; have NB432_438 := nb_ hg BK432; have NB438_432 := nc_ hg BK432; replace HO436 := Aside0.mk (Kd.R_below (kr_ HO436.out) hb); replace BK431 := kq_ BK431 hb; replace BK432 := kq_ BK432 hb; replace HB := bq_ HB hb; clear hb hbox hg; have hnb11 := NB438_431.out; have hnc11 := NB431_438.out; have hnb12 := NB438_432.out; have hnc12 := NB432_438.out; obtain ⟨hcz13_0, hcz13_1, hcz13_2, hfz13_0, hfz13_1, hfz13_2⟩ := c3_ BK438; obtain ⟨Ao14, co14, eo14⟩ := Kd.R_slice HO436.out; subst eo14; obtain ⟨hcz15_0, hcz15_1, hcz15_2, hcz15_3, hfz15_0, hfz15_1, hfz15_2, hfz15_3⟩ := c4_ BK432))
  refine bodyPost_ret (results_cell_row rfl _ _ gb432 30 #[.int .i64 0, .bool false, .int .u64 0, .int .i64 0] (0, 0) _ rfl (by refine kb_ ?_; refine bp_ #[.int .i64 0, .bool false, .int .u64 0, .int .i64 0] 3 ?_; refine bp_ #[.int .i64 0, .bool false, .int .u64 0, .int .i64 0] 2 ?_; refine bp_ #[.int .i64 0, .bool false, .int .u64 0, .int .i64 0] 1 ?_; refine bp_ #[.int .i64 0, .bool false, .int .u64 0, .int .i64 0] 0 ?_; refine bf_ NB432_438 ?_; refine bf_ NB432_438 ?_; refine bf_ NB432_438 ?_; exact BK432.out) Tryd.underlying30 rfl (by kernel_rfl)) rfl ?_
  exact ⟨rf_, bw_ HB.out⟩
 ·rw [if_neg c4] at H
  have c4b0 : ((t434.length : Int) == 0) = false := beq_eq_false_iff_ne.mpr c4
  have c4b1 : ((t434.length : Int) != 0) = true := bne_iff_ne.mpr c4
  have c4b2 : ¬ (t434 = []) := fun h_ => c4 (by rw [h_]; rfl)
  replace H := Option.bind_eq_some_iff.mp H
  obtain ⟨t439, A160, H⟩ := H
  (try dsimp only at H)
  have A16 := Aside0.mk A160
  clear A160
  by_cases c17 : t439 ≤ 64
  ·rw [if_pos c17] at H
   have c17b0 : decide (t439 ≤ 64) = true := decide_eq_true c17
   clear c17
   replace H := Option.bind_eq_some_iff.mp H
   obtain ⟨t440, A180, H⟩ := H
   (try dsimp only at H)
   have A18 := Aside0.mk A180
   clear A180
   replace H := Option.bind_eq_some_iff.mp H
   obtain ⟨t443, A190, H⟩ := H
   (try dsimp only at H)
   have A19 := Aside0.mk A190
   clear A190
   replace H := Option.bind_eq_some_iff.mp H
   obtain ⟨⟨t444, t445, t446, t447⟩, A200, H⟩ := H
   (try dsimp only at H)
   have A20 := Aside0.mk A200
   clear A200
   simp only [Option.some.injEq, Prod.mk.injEq] at H
   obtain ⟨rfl, rfl, rfl, rfl⟩ := H
   go_enter Tryd.func13, Tryd.ntmps13
   try go_wp2_with (first | ((with_reducible refine gate_dst (N := 2) rfl ?_); refine bx_ 2 #[.bool a0_0, .slice A0_1 l0_1.length c0_1, .int .i64 a0_2] 26 ?_; intro gb431 hg w21 hbox hb; have BK431 := Aside0.mk (hbox); have GW431 := ge_ hg HB; have GE431 := ge_ hg HB; replace HB := bq_ HB hb; clear hb hbox hg) | ((with_reducible refine gate_dst (N := 4) rfl ?_); refine bx_ 4 #[.int .i64 0, .bool false, .int .u64 0, .int .i64 0] 30 ?_; intro gb432 hg w22 hbox hb; have BK432 := Aside0.mk (hbox); have GW432 := ge_ hg HB; have GE432 := ge_ hg HB; have NB431_432 := nb_ hg BK431; have NB432_431 := nc_ hg BK431; replace BK431 := kq_ BK431 hb; replace HB := bq_ HB hb; clear hb hbox hg; have hnb23 := NB431_432.out; have hnc23 := NB432_431.out; obtain ⟨hcz24_0, hcz24_1, hcz24_2, hfz24_0, hfz24_1, hfz24_2⟩ := c3_ BK431) | ((with_reducible refine gate_callee (f := 44) rfl ?_); refine gl_ (some 14) Tryd.func44 #[.agg #[.bool a0_0, .slice A0_1 l0_1.length c0_1], .int .i64 a0_2] ?_; (with_reducible refine (pelorusref03_Make.calls k a0_0 _ _ l0_1 a0_2 t433 t434 t437 _ ?side1 ?side2 A3.out).mono ?_); (case side1 => exact kc_ (Kd.C_below HR0_1.out HB.out)); (case side2 => exact HC0_1.out); rintro e w25 ⟨v435, rfl, ho0, hb⟩; refine ⟨_, rfl, ?_⟩; have HO436 := Aside0.mk (Kd.R_lower ho0 (below_size (bw_ HB.out))); replace BK431 := kq_ BK431 hb; replace BK432 := kq_ BK432 hb; replace HB := bq_ HB hb; (try clear hb); (try clear hb2); (try clear hk); (try clear hi); (try clear ho0)) | ((with_reducible refine gate_dst (N := 5) rfl ?_); refine bx_ 5 #[.bool false, .slice none 0 0, .int .i64 0] 26 ?_; intro gb438 hg w26 hbox hb; have BK438 := Aside0.mk (hbox); have GW438 := ge_ hg HB; have GE438 := ge_ hg HB; have NB431_438 := nb_ hg BK431; have NB438_431 := nc_ hg BK431; have NB432_438 := nb_ hg BK432; have NB438_432 := nc_ hg BK432; replace HO436 := Aside0.mk (Kd.R_below (kr_ HO436.out) hb); replace BK431 := kq_ BK431 hb; replace BK432 := kq_ BK432 hb; replace HB := bq_ HB hb; clear hb hbox hg; have hnb27 := NB438_431.out; have hnc27 := NB431_438.out; have hnb28 := NB438_432.out; have hnc28 := NB432_438.out; obtain ⟨hcz29_0, hcz29_1, hcz29_2, hfz29_0, hfz29_1, hfz29_2⟩ := c3_ BK438; obtain ⟨Ao30, co30, eo30⟩ := Kd.R_slice HO436.out; subst eo30) | ((with_reducible refine gate_callee (f := 45) rfl ?_); refine gl_ (some 29) Tryd.func45 #[.slice Ao30 t434.length co30] ?_; (with_reducible refine (pelorusref01_Len.calls k _ _ t434 t439 _ ?side1 ?side2 A16.out).mono ?_); (case side1 => refine (Kd.R_reads' (e := 53) (base := w.heap.size) (ok := fun k_ => True) (n := t434.length) (c := co30) ?_).2.2; exact (kr_ ((Kd.R_mono (Kd.R_far (p := ⟨gb438, 2, none⟩) (Kd.R_far (p := ⟨gb438, 1, none⟩) (Kd.R_far (p := ⟨gb438, 0, none⟩) (Kd.R_types HO436.out BK438.out (by decide)) (fun _ hk => hk.2) (.bool t433)) (fun _ hk => hk.2) (.slice Ao30 t434.length co30)) (fun _ hk => hk.2) (.int .i64 t437)) (fun _ h_ => h_.1))))); (case side2 => exact (Kd.R_reads' HO436.out).2.1); rintro e w31 ⟨rfl, hb⟩; refine ⟨_, rfl, ?_⟩; have n0_ := Aside0.mk (Kd.R_below (kr_ ((Kd.R_mono (Kd.R_far (p := ⟨gb438, 2, none⟩) (Kd.R_far (p := ⟨gb438, 1, none⟩) (Kd.R_far (p := ⟨gb438, 0, none⟩) (Kd.R_types HO436.out BK438.out (by decide)) (fun _ hk => hk.2) (.bool t433)) (fun _ hk => hk.2) (.slice Ao30 t434.length co30)) (fun _ hk => hk.2) (.int .i64 t437)) (fun _ h_ => h_.1)))) hb); have n1_ := Aside0.mk (blk_below (g := gb431) (o := .cells #[.bool a0_0, .slice A0_1 l0_1.length c0_1, .int .i64 a0_2] 26 (0, 0)) (by refine kb_ ?_; refine bf_ NB431_438 ?_; refine bf_ NB431_438 ?_; refine bf_ NB431_438 ?_; exact BK431.out) hb); have n2_ := Aside0.mk (blk_below (g := gb432) (o := .cells #[.int .i64 0, .bool false, .int .u64 0, .int .i64 0] 30 (0, 0)) (by refine kb_ ?_; refine bf_ NB432_438 ?_; refine bf_ NB432_438 ?_; refine bf_ NB432_438 ?_; exact BK432.out) hb); have n3_ := Aside0.mk (blk_below (g := gb438) (o := .cells #[.bool t433, .slice Ao30 t434.length co30, .int .i64 t437] 26 (0, 0)) (by refine kb_ ?_; refine bp_ #[.bool t433, .slice Ao30 t434.length co30, .int .i64 0] 2 ?_; refine bp_ #[.bool t433, .slice none 0 0, .int .i64 0] 1 ?_; refine bp_ #[.bool false, .slice none 0 0, .int .i64 0] 0 ?_; exact BK438.out) hb); have n4_ := bq_ HB hb; clear HO436; clear BK431; clear BK432; clear BK438; clear HB; have HO436 := n0_; have BK431 := n1_; have BK432 := n2_; have BK438 := n3_; have HB := n4_; clear n0_ n1_ n2_ n3_ n4_; (try clear hb); (try clear hb2); (try clear hk); (try clear hi)))
   replace HO436 := Aside0.mk (Kd.R_drew HO436.out)
   replace BK431 := Aside0.mk (blk_drew BK431.out)
   replace BK432 := Aside0.mk (blk_drew BK432.out)
   replace BK438 := Aside0.mk (blk_drew BK438.out)
   replace HB := Aside0.mk (below_drew1 HB.out)
   refine start_ (n := 18) (S := fun w' => w'.cell? ⟨gb438, 0, none⟩ = some (.bool t433) ∧ w'.cell? ⟨gb438, 1, none⟩ = some (.slice Ao30 t434.length co30) ∧ w'.cell? ⟨gb438, 2, none⟩ = some (.int .i64 t437)) (ds := []) #[false, false, false, false, false, false, false, false, false, false, false, false, false, false, false, false, false, false] (by kernel_rfl) rfl rfl ⟨(blk_cell BK438.out 0).trans rfl, (blk_cell BK438.out 1).trans rfl, (blk_cell BK438.out 2).trans rfl⟩ (fun hHeld => ?_); refine with_tabW pelorusref05_Round.tab7 pelorusref05_Round.bits7 (fun HT_ HW_ => ?_)
   generalize w31.drew = w32 at HO436 BK431 BK432 BK438 HB hHeld ⊢
   refine pure_ (i := 0) (N := some 32) (v := ?_) (a' := ?_) #[true, false, false, false, false, false, false, false, false, false, false, false, false, false, false, false, false, false] rfl rfl (any_of HT_.out (by kernel_rfl)) (fun _ _ _ h => h) (Or.inl ⟨by rfl, ?_⟩) ?_ ?_
   rotate_left
   ·intro w'
    go_simp
    with_reducible rfl
   rotate_left
   ·exact pt_
   refine pure_ (i := 1) (N := some 33) (v := ?_) (a' := ?_) #[true, true, false, false, false, false, false, false, false, false, false, false, false, false, false, false, false, false] rfl rfl (any_of HT_.out (by kernel_rfl)) (fun _ _ _ h => h) (Or.inl ⟨by rfl, ?_⟩) ?_ ?_
   rotate_left
   ·intro w'
    go_simp
    with_reducible rfl
   rotate_left
   ·exact pt_
   refine pure_ (i := 3) (N := some 35) (v := ?_) (a' := ?_) #[true, true, false, true, false, false, false, false, false, false, false, false, false, false, false, false, false, false] rfl rfl (any_of HT_.out (by kernel_rfl)) (fun _ _ _ h => h) (Or.inl ⟨by rfl, ?_⟩) ?_ ?_
   rotate_left
   ·intro w'
    go_simp
    with_reducible rfl
   rotate_left
   ·exact pt_
   refine pure_ (i := 4) (N := some 36) (v := ?_) (a' := ?_) #[true, true, false, true, true, false, false, false, false, false, false, false, false, false, false, false, false, false] rfl rfl (any_of HT_.out (by kernel_rfl)) (fun _ _ _ h => h) (Or.inl ⟨by rfl, ?_⟩) ?_ ?_
   rotate_left
   ·intro w'
    go_simp
    with_reducible rfl
   rotate_left
   ·exact pt_
   refine pure_ (i := 6) (N := some 38) (v := ?_) (a' := ?_) #[true, true, false, true, true, false, true, false, false, false, false, false, false, false, false, false, false, false] rfl rfl (any_of HT_.out (by kernel_rfl)) (fun _ _ _ h => h) (Or.inl ⟨by rfl, ?_⟩) ?_ ?_
   rotate_left
   ·intro w'
    go_simp
    with_reducible rfl
   rotate_left
   ·exact pt_
   refine pure_ (i := 7) (N := some 39) (v := ?_) (a' := ?_) #[true, true, false, true, true, false, true, true, false, false, false, false, false, false, false, false, false, false] rfl rfl (any_of HT_.out (by kernel_rfl)) (fun _ _ _ h => h) (Or.inl ⟨by rfl, ?_⟩) ?_ ?_
   rotate_left
   ·intro w'
    go_simp
    with_reducible rfl
   rotate_left
   ·exact pt_
   refine pure_ (i := 10) (N := some 42) (v := ?_) (a' := ?_) #[true, true, false, true, true, false, true, true, false, false, true, false, false, false, false, false, false, false] rfl rfl (any_of HT_.out (by kernel_rfl)) (fun _ _ _ h => h) (Or.inl ⟨by rfl, ?_⟩) ?_ ?_
   rotate_left
   ·intro w'
    go_simp
    with_reducible rfl
   rotate_left
   ·exact pt_
   refine pure_ (i := 12) (N := some 44) (v := ?_) (a' := ?_) #[true, true, false, true, true, false, true, true, false, false, true, false, true, false, false, false, false, false] rfl rfl (any_of HT_.out (by kernel_rfl)) (fun _ _ _ h => h) (Or.inl ⟨by rfl, ?_⟩) ?_ ?_
   rotate_left
   ·intro w'
    go_simp
    with_reducible rfl
   rotate_left
   ·exact pt_
   refine pure_ (i := 15) (N := some 47) (v := ?_) (a' := ?_) #[true, true, false, true, true, false, true, true, false, false, true, false, true, false, false, true, false, false] rfl rfl (any_of HT_.out (by kernel_rfl)) (fun _ _ _ h => h) (Or.inl ⟨by rfl, ?_⟩) ?_ ?_
   rotate_left
   ·intro w'
    go_simp
    with_reducible rfl
   rotate_left
   ·exact pt_
   refine take_ (i := 2) (N := some 34) (v := ?_) (a' := ?_) #[true, true, true, true, true, false, true, true, false, false, true, false, true, false, false, true, false, false] rfl rfl (take_ofW HT_.out HW_.out (by kernel_rfl)) (fun _ _ _ h => h) (Or.inl ⟨by rfl, ?_⟩) hHeld ?_ ?_
   rotate_left
   ·rintro w' ⟨s0, s1, s2⟩
    go_simp
    with_reducible rfl
   rotate_left
   ·exact pt_
   refine take_ (i := 5) (N := some 37) (v := ?_) (a' := ?_) #[true, true, true, true, true, true, true, true, false, false, true, false, true, false, false, true, false, false] rfl rfl (take_ofW HT_.out HW_.out (by kernel_rfl)) (fun _ _ _ h => h) (Or.inl ⟨by rfl, ?_⟩) hHeld ?_ ?_
   rotate_left
   ·rintro w' ⟨s0, s1, s2⟩
    go_simp
    with_reducible rfl
   rotate_left
   ·exact pt_
   refine take_ (i := 11) (N := some 43) (v := ?_) (a' := ?_) #[true, true, true, true, true, true, true, true, false, false, true, true, true, false, false, true, false, false] rfl rfl (take_ofW HT_.out HW_.out (by kernel_rfl)) (fun _ _ _ h => h) (Or.inl ⟨by rfl, ?_⟩) hHeld ?_ ?_
   rotate_left
   ·rintro w' ⟨s0, s1, s2⟩
    go_simp
    with_reducible rfl
   rotate_left
   ·exact pt_
   refine pure_ (i := 13) (N := some 45) (v := ?_) (a' := ?_) #[true, true, true, true, true, true, true, true, false, false, true, true, true, true, false, true, false, false] rfl rfl (any_of HT_.out (by kernel_rfl)) (fun _ _ _ h => h) (Or.inl ⟨by rfl, ?_⟩) ?_ ?_
   rotate_left
   ·intro w'
    go_simp
    with_reducible rfl
   rotate_left
   ·exact pt_
   refine pure_ (i := 14) (N := some 46) (v := ?_) (a' := ?_) #[true, true, true, true, true, true, true, true, false, false, true, true, true, true, true, true, false, false] rfl rfl (any_of HT_.out (by kernel_rfl)) (fun _ _ _ h => h) (Or.inl ⟨by rfl, ?_⟩) ?_ ?_
   rotate_left
   ·intro w'
    go_simp
    with_reducible rfl
   rotate_left
   ·exact pt_
   refine one_ (i := 8) (N := some 40) #[true, true, true, true, true, true, true, true, true, false, true, true, true, true, true, true, false, false] rfl rfl (one_of HT_.out (by kernel_rfl)) (by decide) (fun K hK => ?_)
   refine gs_ Tryd.func48 #[.slice Ao30 t434.length co30, .int .i64 (wrap64 (64 - t439))] ?_
   with_reducible refine (pelorusref01_Shl.calls k _ _ t434 (wrap64 (64 - t439)) t440 _ ?side1 ?side2 A18.out).mono ?_
   (case side1 => exact kc_ (Kd.R_reads' HO436.out).2.2)
   (case side2 => exact (Kd.R_reads' HO436.out).2.1)
   rintro e w33 ⟨v441, rfl, ho0, hb⟩
   refine ⟨_, rfl, ?_⟩
   have HO442 := Aside0.mk (Kd.R_lower (Kd.R_new' ho0 (Kd.R_lt (kr_ HO436.out))) (below_size (bw_ HB.out)))
   replace HO436 := Aside0.mk (Kd.R_elder' (kr_ HO436.out) (Kd.R_base ho0) hb)
   replace BK431 := kq_ BK431 hb
   replace BK432 := kq_ BK432 hb
   replace BK438 := kq_ BK438 hb
   replace HB := bq_ HB hb
   (try clear hb)
   (try clear hb2)
   (try clear hk)
   (try clear hi)
   (try clear ho0)
   obtain ⟨Ao34, co34, eo34⟩ := Kd.R_slice HO442.out
   (first | subst eo34 | (injection eo34 with f1_ f2_ f3_; have f4_ := f1_.symm; have f5_ := f3_.symm; clear f1_ f2_ f3_; subst f4_; subst f5_))
   refine hK.out _ _ ⟨(blk_cell BK438.out 0).trans rfl, (blk_cell BK438.out 1).trans rfl, (blk_cell BK438.out 2).trans rfl⟩ (fun hHeld => ?_)
   clear hK K
   refine norm_ (a' := ?_) ?_ ?_
   rotate_left
   ·show Act.put _ (some 40) _ = _
    exact pt_
   refine one_ (i := 9) (N := some 41) #[true, true, true, true, true, true, true, true, true, true, true, true, true, true, true, true, false, false] rfl rfl (one_of HT_.out (by kernel_rfl)) (by decide) (fun K hK => ?_)
   refine gs_ Tryd.func47 #[.slice Ao34 t440.length co34] ?_
   with_reducible refine (pelorusref05_word.calls k _ _ t440 t443 _ ?side1 ?side2 A19.out).mono ?_
   (case side1 => exact kc_ (Kd.R_reads' HO442.out).2.2)
   (case side2 => exact (Kd.R_reads' HO442.out).2.1)
   rintro e w' ⟨rfl, ⟨nd, rfl⟩⟩
   refine ⟨_, rfl, ?_⟩
   refine hK.out _ _ ⟨(blk_cell BK438.out 0).trans rfl, (blk_cell BK438.out 1).trans rfl, (blk_cell BK438.out 2).trans rfl⟩ (fun hHeld => ?_)
   clear hK K
   refine norm_ (a' := ?_) ?_ ?_
   rotate_left
   ·show Act.put _ (some 41) _ = _
    exact pt_
   refine one_ (i := 16) (N := some 48) #[true, true, true, true, true, true, true, true, true, true, true, true, true, true, true, true, true, false] rfl rfl (one_of HT_.out (by kernel_rfl)) (by decide) (fun K hK => ?_)
   refine gs_ Tryd.func46 #[.bool t433, .int .u64 t443, .int .i64 (wrap64 ((wrap64 (t437 + t439)) - 64)), .bool (a1 != t433)] ?_
   with_reducible refine (pelorusref05_finite.calls t433 t443 (wrap64 ((wrap64 (t437 + t439)) - 64)) (a1 != t433) t444 t445 t446 t447 _ A20.out).mono ?_
   rintro e w35 ⟨rfl, hb⟩
   refine ⟨_, rfl, ?_⟩
   replace HO436 := Aside0.mk (Kd.R_below (kr_ HO436.out) hb)
   replace HO442 := Aside0.mk (Kd.R_below (kr_ HO442.out) hb)
   replace BK431 := kq_ BK431 hb
   replace BK432 := kq_ BK432 hb
   replace BK438 := kq_ BK438 hb
   replace HB := bq_ HB hb
   (try clear hb)
   (try clear hb2)
   (try clear hk)
   (try clear hi)
   refine hK.out _ _ ⟨(blk_cell BK438.out 0).trans rfl, (blk_cell BK438.out 1).trans rfl, (blk_cell BK438.out 2).trans rfl⟩ (fun hHeld => ?_)
   clear hK K
   refine norm_ (a' := ?_) ?_ ?_
   rotate_left
   ·show Act.put _ (some 48) _ = _
    exact pt_
   refine one_ (i := 17) (N := none) #[true, true, true, true, true, true, true, true, true, true, true, true, true, true, true, true, true, true] rfl rfl (one_of HT_.out (by kernel_rfl)) (by decide) (fun K hK => ?_)
   have hs36 : w35.cell? ⟨gb432, 0, none⟩ = some (.int .i64 0) := (blk_cell BK432.out 0).trans rfl
   have hfs36 := fz_ BK432 0
   have hns36_0 := NB431_432.out
   have hns36_2 := NB438_432.out
   have hms36_0 := NB432_431.out
   have hms36_2 := NB432_438.out
   have hs37 : w35.cell? ⟨gb432, 1, none⟩ = some (.bool false) := (blk_cell BK432.out 1).trans rfl
   have hfs37 := fz_ BK432 1
   have hns37_0 := NB431_432.out
   have hns37_2 := NB438_432.out
   have hms37_0 := NB432_431.out
   have hms37_2 := NB432_438.out
   have hs38 : w35.cell? ⟨gb432, 2, none⟩ = some (.int .u64 0) := (blk_cell BK432.out 2).trans rfl
   have hfs38 := fz_ BK432 2
   have hns38_0 := NB431_432.out
   have hns38_2 := NB438_432.out
   have hms38_0 := NB432_431.out
   have hms38_2 := NB432_438.out
   have hs39 : w35.cell? ⟨gb432, 3, none⟩ = some (.int .i64 0) := (blk_cell BK432.out 3).trans rfl
   have hfs39 := fz_ BK432 3
   have hns39_0 := NB431_432.out
   have hns39_2 := NB438_432.out
   have hms39_0 := NB432_431.out
   have hms39_2 := NB432_438.out
   refine skip_ (w1 := ?_) (by rfl) rfl ?_ ?_
   rotate_left
   ·go_simp
    rfl
   refine hK.out _ _ ⟨((cell_far (p := ⟨gb432, _, none⟩) NB438_432.out _).trans (((cell_far (p := ⟨gb432, _, none⟩) NB438_432.out _).trans (((cell_far (p := ⟨gb432, _, none⟩) NB438_432.out _).trans (((cell_far (p := ⟨gb432, _, none⟩) NB438_432.out _).trans (hHeld.1)))))))), ((cell_far (p := ⟨gb432, _, none⟩) NB438_432.out _).trans (((cell_far (p := ⟨gb432, _, none⟩) NB438_432.out _).trans (((cell_far (p := ⟨gb432, _, none⟩) NB438_432.out _).trans (((cell_far (p := ⟨gb432, _, none⟩) NB438_432.out _).trans (hHeld.2.1)))))))), ((cell_far (p := ⟨gb432, _, none⟩) NB438_432.out _).trans (((cell_far (p := ⟨gb432, _, none⟩) NB438_432.out _).trans (((cell_far (p := ⟨gb432, _, none⟩) NB438_432.out _).trans (((cell_far (p := ⟨gb432, _, none⟩) NB438_432.out _).trans (hHeld.2.2))))))))⟩ (fun hHeld => ?_)
   clear hK K
   refine done_ (done_of HT_.out (by kernel_rfl)) ?_
   try go_wp2
   refine bodyPost_ret (results_cell_row rfl _ _ gb432 30 #[.int .i64 t444, .bool t445, .int .u64 t446, .int .i64 t447] (0, 0) _ rfl (by refine kb_ ?_; refine bp_ #[.int .i64 t444, .bool t445, .int .u64 t446, .int .i64 0] 3 ?_; refine bp_ #[.int .i64 t444, .bool t445, .int .u64 0, .int .i64 0] 2 ?_; refine bp_ #[.int .i64 t444, .bool false, .int .u64 0, .int .i64 0] 1 ?_; refine bp_ #[.int .i64 0, .bool false, .int .u64 0, .int .i64 0] 0 ?_; exact BK432.out) Tryd.underlying30 rfl (by kernel_rfl)) rfl ?_
   exact ⟨rf_, bw_ HB.out⟩
  ·rw [if_neg c17] at H
   have c17b0 : decide (t439 ≤ 64) = false := decide_eq_false c17
   clear c17
   replace H := Option.bind_eq_some_iff.mp H
   obtain ⟨t448, A400, H⟩ := H
   (try dsimp only at H)
   have A40 := Aside0.mk A400
   clear A400
   by_cases c41 : (a1 != t433) = true
   ·rw [if_pos c41] at H
    have c41b0 : (a1 != t433) = true := c41
    (try (have c41b1 : decide (a1 = t433) = false := by simpa using c41))
    (try (have c41b2 : (a1 == t433) = false := by simpa using c41))
    (try (have c41b3 : ¬ (a1 = t433) := by simpa using c41))
    clear c41
    obtain ⟨y451, hy451⟩ : ∃ y_ : List Int, y_ = (([1] : List Int)) := ⟨_, rfl⟩
    replace H : ((pelorusref01_Add.f k t448 y451).bind fun t454 => ((pelorusref01_Len.f k t454).bind fun t457 => (if t457 > 64 then ((pelorusref01_Shr.f k t454 1).bind fun t458 => ((pelorusref05_word.f k t458).bind fun t461 => ((pelorusref05_finite.f t433 t461 (wrap64 ((wrap64 ((wrap64 (t437 + t439)) - 64)) + 1)) (a1 != t433)).bind fun bt462 => (some (bt462.1, bt462.2.1, bt462.2.2.1, bt462.2.2.2))))) else ((pelorusref05_word.f k t454).bind fun t466 => ((pelorusref05_finite.f t433 t466 (wrap64 ((wrap64 (t437 + t439)) - 64)) (a1 != t433)).bind fun bt467 => (some (bt467.1, bt467.2.1, bt467.2.2.1, bt467.2.2.2))))))) = some (r1, r2, r3, r4) := by first | (rw [hy451]; with_reducible exact H) | (have H2_ := (Option.bind_some _ _).symm.trans H; rw [hy451]; with_reducible exact H2_) | (have H2_ := (Option.bind_some _ _).symm.trans H; with_reducible exact H2_) | with_reducible exact H | (rw [hy451]; exact H) | exact H
    have Ny451 := Aside0.mk hy451
    clear hy451
    replace H := Option.bind_eq_some_iff.mp H
    obtain ⟨t454, A420, H⟩ := H
    (try dsimp only at H)
    have A42 := Aside0.mk A420
    clear A420
    replace H := Option.bind_eq_some_iff.mp H
    obtain ⟨t457, A430, H⟩ := H
    (try dsimp only at H)
    have A43 := Aside0.mk A430
    clear A430
    by_cases c44 : t457 > 64
    ·rw [if_pos c44] at H
     have c44b0 : decide (64 < t457) = true := decide_eq_true c44
     clear c44
     replace H := Option.bind_eq_some_iff.mp H
     obtain ⟨t458, A450, H⟩ := H
     (try dsimp only at H)
     have A45 := Aside0.mk A450
     clear A450
     replace H := Option.bind_eq_some_iff.mp H
     obtain ⟨t461, A460, H⟩ := H
     (try dsimp only at H)
     have A46 := Aside0.mk A460
     clear A460
     replace H := Option.bind_eq_some_iff.mp H
     obtain ⟨⟨t462, t463, t464, t465⟩, A470, H⟩ := H
     (try dsimp only at H)
     have A47 := Aside0.mk A470
     clear A470
     simp only [Option.some.injEq, Prod.mk.injEq] at H
     obtain ⟨rfl, rfl, rfl, rfl⟩ := H
     go_enter Tryd.func13, Tryd.ntmps13
     try go_wp2_with (first | ((with_reducible refine gate_dst (N := 2) rfl ?_); refine bx_ 2 #[.bool a0_0, .slice A0_1 l0_1.length c0_1, .int .i64 a0_2] 26 ?_; intro gb431 hg w48 hbox hb; have BK431 := Aside0.mk (hbox); have GW431 := ge_ hg HB; have GE431 := ge_ hg HB; replace HB := bq_ HB hb; clear hb hbox hg) | ((with_reducible refine gate_dst (N := 4) rfl ?_); refine bx_ 4 #[.int .i64 0, .bool false, .int .u64 0, .int .i64 0] 30 ?_; intro gb432 hg w49 hbox hb; have BK432 := Aside0.mk (hbox); have GW432 := ge_ hg HB; have GE432 := ge_ hg HB; have NB431_432 := nb_ hg BK431; have NB432_431 := nc_ hg BK431; replace BK431 := kq_ BK431 hb; replace HB := bq_ HB hb; clear hb hbox hg; have hnb50 := NB431_432.out; have hnc50 := NB432_431.out; obtain ⟨hcz51_0, hcz51_1, hcz51_2, hfz51_0, hfz51_1, hfz51_2⟩ := c3_ BK431) | ((with_reducible refine gate_callee (f := 44) rfl ?_); refine gl_ (some 14) Tryd.func44 #[.agg #[.bool a0_0, .slice A0_1 l0_1.length c0_1], .int .i64 a0_2] ?_; (with_reducible refine (pelorusref03_Make.calls k a0_0 _ _ l0_1 a0_2 t433 t434 t437 _ ?side1 ?side2 A3.out).mono ?_); (case side1 => exact kc_ (Kd.C_below HR0_1.out HB.out)); (case side2 => exact HC0_1.out); rintro e w52 ⟨v435, rfl, ho0, hb⟩; refine ⟨_, rfl, ?_⟩; have HO436 := Aside0.mk (Kd.R_lower ho0 (below_size (bw_ HB.out))); replace BK431 := kq_ BK431 hb; replace BK432 := kq_ BK432 hb; replace HB := bq_ HB hb; (try clear hb); (try clear hb2); (try clear hk); (try clear hi); (try clear ho0)) | ((with_reducible refine gate_dst (N := 5) rfl ?_); refine bx_ 5 #[.bool false, .slice none 0 0, .int .i64 0] 26 ?_; intro gb438 hg w53 hbox hb; have BK438 := Aside0.mk (hbox); have GW438 := ge_ hg HB; have GE438 := ge_ hg HB; have NB431_438 := nb_ hg BK431; have NB438_431 := nc_ hg BK431; have NB432_438 := nb_ hg BK432; have NB438_432 := nc_ hg BK432; replace HO436 := Aside0.mk (Kd.R_below (kr_ HO436.out) hb); replace BK431 := kq_ BK431 hb; replace BK432 := kq_ BK432 hb; replace HB := bq_ HB hb; clear hb hbox hg; have hnb54 := NB438_431.out; have hnc54 := NB431_438.out; have hnb55 := NB438_432.out; have hnc55 := NB432_438.out; obtain ⟨hcz56_0, hcz56_1, hcz56_2, hfz56_0, hfz56_1, hfz56_2⟩ := c3_ BK438; obtain ⟨Ao57, co57, eo57⟩ := Kd.R_slice HO436.out; subst eo57) | ((with_reducible refine gate_callee (f := 45) rfl ?_); refine gl_ (some 29) Tryd.func45 #[.slice Ao57 t434.length co57] ?_; (with_reducible refine (pelorusref01_Len.calls k _ _ t434 t439 _ ?side1 ?side2 A16.out).mono ?_); (case side1 => refine (Kd.R_reads' (e := 53) (base := w.heap.size) (ok := fun k_ => True) (n := t434.length) (c := co57) ?_).2.2; exact (kr_ ((Kd.R_mono (Kd.R_far (p := ⟨gb438, 2, none⟩) (Kd.R_far (p := ⟨gb438, 1, none⟩) (Kd.R_far (p := ⟨gb438, 0, none⟩) (Kd.R_types HO436.out BK438.out (by decide)) (fun _ hk => hk.2) (.bool t433)) (fun _ hk => hk.2) (.slice Ao57 t434.length co57)) (fun _ hk => hk.2) (.int .i64 t437)) (fun _ h_ => h_.1))))); (case side2 => exact (Kd.R_reads' HO436.out).2.1); rintro e w58 ⟨rfl, hb⟩; refine ⟨_, rfl, ?_⟩; have n0_ := Aside0.mk (Kd.R_below (kr_ ((Kd.R_mono (Kd.R_far (p := ⟨gb438, 2, none⟩) (Kd.R_far (p := ⟨gb438, 1, none⟩) (Kd.R_far (p := ⟨gb438, 0, none⟩) (Kd.R_types HO436.out BK438.out (by decide)) (fun _ hk => hk.2) (.bool t433)) (fun _ hk => hk.2) (.slice Ao57 t434.length co57)) (fun _ hk => hk.2) (.int .i64 t437)) (fun _ h_ => h_.1)))) hb); have n1_ := Aside0.mk (blk_below (g := gb431) (o := .cells #[.bool a0_0, .slice A0_1 l0_1.length c0_1, .int .i64 a0_2] 26 (0, 0)) (by refine kb_ ?_; refine bf_ NB431_438 ?_; refine bf_ NB431_438 ?_; refine bf_ NB431_438 ?_; exact BK431.out) hb); have n2_ := Aside0.mk (blk_below (g := gb432) (o := .cells #[.int .i64 0, .bool false, .int .u64 0, .int .i64 0] 30 (0, 0)) (by refine kb_ ?_; refine bf_ NB432_438 ?_; refine bf_ NB432_438 ?_; refine bf_ NB432_438 ?_; exact BK432.out) hb); have n3_ := Aside0.mk (blk_below (g := gb438) (o := .cells #[.bool t433, .slice Ao57 t434.length co57, .int .i64 t437] 26 (0, 0)) (by refine kb_ ?_; refine bp_ #[.bool t433, .slice Ao57 t434.length co57, .int .i64 0] 2 ?_; refine bp_ #[.bool t433, .slice none 0 0, .int .i64 0] 1 ?_; refine bp_ #[.bool false, .slice none 0 0, .int .i64 0] 0 ?_; exact BK438.out) hb); have n4_ := bq_ HB hb; clear HO436; clear BK431; clear BK432; clear BK438; clear HB; have HO436 := n0_; have BK431 := n1_; have BK432 := n2_; have BK438 := n3_; have HB := n4_; clear n0_ n1_ n2_ n3_ n4_; (try clear hb); (try clear hb2); (try clear hk); (try clear hi); obtain ⟨hcz59_0, hcz59_1, hcz59_2, hfz59_0, hfz59_1, hfz59_2⟩ := c3_ BK438) | ((with_reducible refine gate_callee (f := 49) rfl ?_); refine gl_ (some 54) Tryd.func49 #[.slice Ao57 t434.length co57, .int .i64 (wrap64 (t439 - 64))] ?_; (with_reducible refine (pelorusref01_Shr.calls k _ _ t434 (wrap64 (t439 - 64)) t448 _ ?side1 ?side2 A40.out).mono ?_); (case side1 => exact kc_ (Kd.R_reads' HO436.out).2.2); (case side2 => exact (Kd.R_reads' HO436.out).2.1); rintro e w60 ⟨v449, rfl, ho0, hb⟩; refine ⟨_, rfl, ?_⟩; have HO450 := Aside0.mk (Kd.R_lower (Kd.R_new' ho0 (Kd.R_lt (kr_ HO436.out))) (below_size (bw_ HB.out))); replace HO436 := Aside0.mk (Kd.R_elder' (kr_ HO436.out) (Kd.R_base ho0) hb); replace BK431 := kq_ BK431 hb; replace BK432 := kq_ BK432 hb; replace BK438 := kq_ BK438 hb; replace HB := bq_ HB hb; (try clear hb); (try clear hb2); (try clear hk); (try clear hi); (try clear ho0); obtain ⟨hcz61_0, hcz61_1, hcz61_2, hfz61_0, hfz61_1, hfz61_2⟩ := c3_ BK438) | ((with_reducible refine gate_dst (N := 62) rfl ?_); refine Kd.R_lit (Kd.int .u32) _ 53 ?hg (N := 62) ?hd (xs := ([1] : List Int)) (inner := [.int .u32 1]) (ok := fun _ => True) (okp := fun _ => True) ?hr ?hp (fun _ hk => hk) trivial (Below.refl _ _) (Nat.le_refl _) (by simp) ?_; (case hd => rfl); (case hg => rfl); (case hr => first | (go_simp; done) | (go_simp; rfl)); (case hp => exact (Reps.one (show Kd.M (Kd.int .u32) _ _ _ 1 [.int .u32 1] from rfl) (Reps.none _ _))); intro v452 w62 ho63 hb hg_ hnew_; clear hg_ hnew_; (first | rw [← Ny451.out] at ho63 | (simp only [Int.reduceToNat] at ho63; rw [← Ny451.out] at ho63)); have HO453 := Aside0.mk (Kd.R_lower (Kd.R_new' (Kd.R_new' ho63 (Kd.R_lt (kr_ HO436.out))) (Kd.R_lt (kr_ HO450.out))) (below_size (bw_ HB.out))); replace HO436 := Aside0.mk (Kd.R_elder' (kr_ HO436.out) (Kd.R_base ho63) hb); replace HO450 := Aside0.mk (Kd.R_elder' (kr_ HO450.out) (Kd.R_base ho63) hb); replace BK431 := kq_ BK431 hb; replace BK432 := kq_ BK432 hb; replace BK438 := kq_ BK438 hb; replace HB := bq_ HB hb; clear hb ho63; obtain ⟨Ao64, co64, eo64⟩ := Kd.R_slice HO450.out; subst eo64; obtain ⟨Ao65, co65, eo65⟩ := Kd.R_slice HO453.out; subst eo65) | ((with_reducible refine gate_callee (f := 50) rfl ?_); refine gl_ (some 63) Tryd.func50 #[.slice Ao64 t448.length co64, .slice Ao65 y451.length co65] ?_; (with_reducible refine (pelorusref01_Add.calls k _ _ t448 _ _ y451 t454 _ ?side1 ?side2 ?side3 ?side4 A42.out).mono ?_); (case side1 => exact kc_ (Kd.R_reads' HO450.out).2.2); (case side2 => exact (Kd.R_reads' HO450.out).2.1); (case side3 => exact kc_ (Kd.R_reads' HO453.out).2.2); (case side4 => exact (Kd.R_reads' HO453.out).2.1); rintro e w66 ⟨v455, rfl, ho0, hb⟩; refine ⟨_, rfl, ?_⟩; have HO456 := Aside0.mk (Kd.R_lower (Kd.R_new' (Kd.R_new' (Kd.R_new' ho0 (Kd.R_lt (kr_ HO436.out))) (Kd.R_lt (kr_ HO450.out))) (Kd.R_lt (kr_ HO453.out))) (below_size (bw_ HB.out))); replace HO436 := Aside0.mk (Kd.R_elder' (kr_ HO436.out) (Kd.R_base ho0) hb); replace HO450 := Aside0.mk (Kd.R_elder' (kr_ HO450.out) (Kd.R_base ho0) hb); replace HO453 := Aside0.mk (Kd.R_elder' (kr_ HO453.out) (Kd.R_base ho0) hb); replace BK431 := kq_ BK431 hb; replace BK432 := kq_ BK432 hb; replace BK438 := kq_ BK438 hb; replace HB := bq_ HB hb; (try clear hb); (try clear hb2); (try clear hk); (try clear hi); (try clear ho0); obtain ⟨Ao67, co67, eo67⟩ := Kd.R_slice HO456.out; subst eo67) | ((with_reducible refine gate_callee (f := 45) rfl ?_); refine gl_ (some 65) Tryd.func45 #[.slice Ao67 t454.length co67] ?_; (with_reducible refine (pelorusref01_Len.calls k _ _ t454 t457 _ ?side1 ?side2 A43.out).mono ?_); (case side1 => exact kc_ (Kd.R_reads' HO456.out).2.2); (case side2 => exact (Kd.R_reads' HO456.out).2.1); rintro e w68 ⟨rfl, hb⟩; refine ⟨_, rfl, ?_⟩; replace HO436 := Aside0.mk (Kd.R_below (kr_ HO436.out) hb); replace HO450 := Aside0.mk (Kd.R_below (kr_ HO450.out) hb); replace HO453 := Aside0.mk (Kd.R_below (kr_ HO453.out) hb); replace HO456 := Aside0.mk (Kd.R_below (kr_ HO456.out) hb); replace BK431 := kq_ BK431 hb; replace BK432 := kq_ BK432 hb; replace BK438 := kq_ BK438 hb; replace HB := bq_ HB hb; (try clear hb); (try clear hb2); (try clear hk); (try clear hi)) | ((with_reducible refine gate_callee (f := 49) rfl ?_); refine gl_ (some 68) Tryd.func49 #[.slice Ao67 t454.length co67, .int .i64 1] ?_; (with_reducible refine (pelorusref01_Shr.calls k _ _ t454 1 t458 _ ?side1 ?side2 A45.out).mono ?_); (case side1 => exact kc_ (Kd.R_reads' HO456.out).2.2); (case side2 => exact (Kd.R_reads' HO456.out).2.1); rintro e w69 ⟨v459, rfl, ho0, hb⟩; refine ⟨_, rfl, ?_⟩; have HO460 := Aside0.mk (Kd.R_lower (Kd.R_new' (Kd.R_new' (Kd.R_new' (Kd.R_new' ho0 (Kd.R_lt (kr_ HO436.out))) (Kd.R_lt (kr_ HO450.out))) (Kd.R_lt (kr_ HO453.out))) (Kd.R_lt (kr_ HO456.out))) (below_size (bw_ HB.out))); replace HO436 := Aside0.mk (Kd.R_elder' (kr_ HO436.out) (Kd.R_base ho0) hb); replace HO450 := Aside0.mk (Kd.R_elder' (kr_ HO450.out) (Kd.R_base ho0) hb); replace HO453 := Aside0.mk (Kd.R_elder' (kr_ HO453.out) (Kd.R_base ho0) hb); replace HO456 := Aside0.mk (Kd.R_elder' (kr_ HO456.out) (Kd.R_base ho0) hb); replace BK431 := kq_ BK431 hb; replace BK432 := kq_ BK432 hb; replace BK438 := kq_ BK438 hb; replace HB := bq_ HB hb; (try clear hb); (try clear hb2); (try clear hk); (try clear hi); (try clear ho0)))
     replace HO436 := Aside0.mk (Kd.R_drew HO436.out)
     replace HO450 := Aside0.mk (Kd.R_drew HO450.out)
     replace HO453 := Aside0.mk (Kd.R_drew HO453.out)
     replace HO456 := Aside0.mk (Kd.R_drew HO456.out)
     replace HO460 := Aside0.mk (Kd.R_drew HO460.out)
     replace BK431 := Aside0.mk (blk_drew BK431.out)
     replace BK432 := Aside0.mk (blk_drew BK432.out)
     replace BK438 := Aside0.mk (blk_drew BK438.out)
     replace HB := Aside0.mk (below_drew1 HB.out)
     obtain ⟨Ao71, co71, eo71⟩ := Kd.R_slice HO460.out
     (first | subst eo71 | (injection eo71 with f1_ f2_ f3_; have f4_ := f1_.symm; have f5_ := f3_.symm; clear f1_ f2_ f3_; subst f4_; subst f5_))
     refine start_ (n := 9) (S := fun w' => w'.cell? ⟨gb438, 0, none⟩ = some (.bool t433) ∧ w'.cell? ⟨gb438, 1, none⟩ = some (.slice Ao57 t434.length co57) ∧ w'.cell? ⟨gb438, 2, none⟩ = some (.int .i64 t437)) (ds := []) #[false, false, false, false, false, false, false, false, false] (by kernel_rfl) rfl rfl ⟨(blk_cell BK438.out 0).trans rfl, (blk_cell BK438.out 1).trans rfl, (blk_cell BK438.out 2).trans rfl⟩ (fun hHeld => ?_); refine with_tabW pelorusref05_Round.tab15 pelorusref05_Round.bits15 (fun HT_ HW_ => ?_)
     generalize w69.drew = w70 at HO436 HO450 HO453 HO456 HO460 BK431 BK432 BK438 HB hHeld ⊢
     refine pure_ (i := 0) (N := some 71) (v := ?_) (a' := ?_) #[true, false, false, false, false, false, false, false, false] rfl rfl (any_of HT_.out (by kernel_rfl)) (fun _ _ _ h => h) (Or.inl ⟨by rfl, ?_⟩) ?_ ?_
     rotate_left
     ·intro w'
      go_simp
      with_reducible rfl
     rotate_left
     ·exact pt_
     refine pure_ (i := 1) (N := some 72) (v := ?_) (a' := ?_) #[true, true, false, false, false, false, false, false, false] rfl rfl (any_of HT_.out (by kernel_rfl)) (fun _ _ _ h => h) (Or.inl ⟨by rfl, ?_⟩) ?_ ?_
     rotate_left
     ·intro w'
      go_simp
      with_reducible rfl
     rotate_left
     ·exact pt_
     refine pure_ (i := 3) (N := some 74) (v := ?_) (a' := ?_) #[true, true, false, true, false, false, false, false, false] rfl rfl (any_of HT_.out (by kernel_rfl)) (fun _ _ _ h => h) (Or.inl ⟨by rfl, ?_⟩) ?_ ?_
     rotate_left
     ·intro w'
      go_simp
      with_reducible rfl
     rotate_left
     ·exact pt_
     refine pure_ (i := 5) (N := some 76) (v := ?_) (a' := ?_) #[true, true, false, true, false, true, false, false, false] rfl rfl (any_of HT_.out (by kernel_rfl)) (fun _ _ _ h => h) (Or.inl ⟨by rfl, ?_⟩) ?_ ?_
     rotate_left
     ·intro w'
      go_simp
      with_reducible rfl
     rotate_left
     ·exact pt_
     refine pure_ (i := 6) (N := some 77) (v := ?_) (a' := ?_) #[true, true, false, true, false, true, true, false, false] rfl rfl (any_of HT_.out (by kernel_rfl)) (fun _ _ _ h => h) (Or.inl ⟨by rfl, ?_⟩) ?_ ?_
     rotate_left
     ·intro w'
      go_simp
      with_reducible rfl
     rotate_left
     ·exact pt_
     refine take_ (i := 2) (N := some 73) (v := ?_) (a' := ?_) #[true, true, true, true, false, true, true, false, false] rfl rfl (take_ofW HT_.out HW_.out (by kernel_rfl)) (fun _ _ _ h => h) (Or.inl ⟨by rfl, ?_⟩) hHeld ?_ ?_
     rotate_left
     ·rintro w' ⟨s0, s1, s2⟩
      go_simp
      with_reducible rfl
     rotate_left
     ·exact pt_
     refine one_ (i := 4) (N := some 75) #[true, true, true, true, true, true, true, false, false] rfl rfl (one_of HT_.out (by kernel_rfl)) (by decide) (fun K hK => ?_)
     refine gs_ Tryd.func47 #[.slice Ao71 t458.length co71] ?_
     with_reducible refine (pelorusref05_word.calls k _ _ t458 t461 _ ?side1 ?side2 A46.out).mono ?_
     (case side1 => exact kc_ (Kd.R_reads' HO460.out).2.2)
     (case side2 => exact (Kd.R_reads' HO460.out).2.1)
     rintro e w' ⟨rfl, ⟨nd, rfl⟩⟩
     refine ⟨_, rfl, ?_⟩
     refine hK.out _ _ ⟨(blk_cell BK438.out 0).trans rfl, (blk_cell BK438.out 1).trans rfl, (blk_cell BK438.out 2).trans rfl⟩ (fun hHeld => ?_)
     clear hK K
     refine norm_ (a' := ?_) ?_ ?_
     rotate_left
     ·show Act.put _ (some 75) _ = _
      exact pt_
     refine one_ (i := 7) (N := some 78) #[true, true, true, true, true, true, true, true, false] rfl rfl (one_of HT_.out (by kernel_rfl)) (by decide) (fun K hK => ?_)
     refine gs_ Tryd.func46 #[.bool t433, .int .u64 t461, .int .i64 (wrap64 ((wrap64 ((wrap64 (t437 + t439)) - 64)) + 1)), .bool (a1 != t433)] ?_
     with_reducible refine (pelorusref05_finite.calls t433 t461 (wrap64 ((wrap64 ((wrap64 (t437 + t439)) - 64)) + 1)) (a1 != t433) t462 t463 t464 t465 _ A47.out).mono ?_
     rintro e w72 ⟨rfl, hb⟩
     refine ⟨_, rfl, ?_⟩
     replace HO436 := Aside0.mk (Kd.R_below (kr_ HO436.out) hb)
     replace HO450 := Aside0.mk (Kd.R_below (kr_ HO450.out) hb)
     replace HO453 := Aside0.mk (Kd.R_below (kr_ HO453.out) hb)
     replace HO456 := Aside0.mk (Kd.R_below (kr_ HO456.out) hb)
     replace HO460 := Aside0.mk (Kd.R_below (kr_ HO460.out) hb)
     replace BK431 := kq_ BK431 hb
     replace BK432 := kq_ BK432 hb
     replace BK438 := kq_ BK438 hb
     replace HB := bq_ HB hb
     (try clear hb)
     (try clear hb2)
     (try clear hk)
     (try clear hi)
     refine hK.out _ _ ⟨(blk_cell BK438.out 0).trans rfl, (blk_cell BK438.out 1).trans rfl, (blk_cell BK438.out 2).trans rfl⟩ (fun hHeld => ?_)
     clear hK K
     refine norm_ (a' := ?_) ?_ ?_
     rotate_left
     ·show Act.put _ (some 78) _ = _
      exact pt_
     refine one_ (i := 8) (N := none) #[true, true, true, true, true, true, true, true, true] rfl rfl (one_of HT_.out (by kernel_rfl)) (by decide) (fun K hK => ?_)
     have hs73 : w72.cell? ⟨gb432, 0, none⟩ = some (.int .i64 0) := (blk_cell BK432.out 0).trans rfl
     have hfs73 := fz_ BK432 0
     have hns73_0 := NB431_432.out
     have hns73_2 := NB438_432.out
     have hms73_0 := NB432_431.out
     have hms73_2 := NB432_438.out
     have hs74 : w72.cell? ⟨gb432, 1, none⟩ = some (.bool false) := (blk_cell BK432.out 1).trans rfl
     have hfs74 := fz_ BK432 1
     have hns74_0 := NB431_432.out
     have hns74_2 := NB438_432.out
     have hms74_0 := NB432_431.out
     have hms74_2 := NB432_438.out
     have hs75 : w72.cell? ⟨gb432, 2, none⟩ = some (.int .u64 0) := (blk_cell BK432.out 2).trans rfl
     have hfs75 := fz_ BK432 2
     have hns75_0 := NB431_432.out
     have hns75_2 := NB438_432.out
     have hms75_0 := NB432_431.out
     have hms75_2 := NB432_438.out
     have hs76 : w72.cell? ⟨gb432, 3, none⟩ = some (.int .i64 0) := (blk_cell BK432.out 3).trans rfl
     have hfs76 := fz_ BK432 3
     have hns76_0 := NB431_432.out
     have hns76_2 := NB438_432.out
     have hms76_0 := NB432_431.out
     have hms76_2 := NB432_438.out
     refine skip_ (w1 := ?_) (by rfl) rfl ?_ ?_
     rotate_left
     ·go_simp
      rfl
     refine hK.out _ _ ⟨((cell_far (p := ⟨gb432, _, none⟩) NB438_432.out _).trans (((cell_far (p := ⟨gb432, _, none⟩) NB438_432.out _).trans (((cell_far (p := ⟨gb432, _, none⟩) NB438_432.out _).trans (((cell_far (p := ⟨gb432, _, none⟩) NB438_432.out _).trans (hHeld.1)))))))), ((cell_far (p := ⟨gb432, _, none⟩) NB438_432.out _).trans (((cell_far (p := ⟨gb432, _, none⟩) NB438_432.out _).trans (((cell_far (p := ⟨gb432, _, none⟩) NB438_432.out _).trans (((cell_far (p := ⟨gb432, _, none⟩) NB438_432.out _).trans (hHeld.2.1)))))))), ((cell_far (p := ⟨gb432, _, none⟩) NB438_432.out _).trans (((cell_far (p := ⟨gb432, _, none⟩) NB438_432.out _).trans (((cell_far (p := ⟨gb432, _, none⟩) NB438_432.out _).trans (((cell_far (p := ⟨gb432, _, none⟩) NB438_432.out _).trans (hHeld.2.2))))))))⟩ (fun hHeld => ?_)
     clear hK K
     refine done_ (done_of HT_.out (by kernel_rfl)) ?_
     try go_wp2
     refine bodyPost_ret (results_cell_row rfl _ _ gb432 30 #[.int .i64 t462, .bool t463, .int .u64 t464, .int .i64 t465] (0, 0) _ rfl (by refine kb_ ?_; refine bp_ #[.int .i64 t462, .bool t463, .int .u64 t464, .int .i64 0] 3 ?_; refine bp_ #[.int .i64 t462, .bool t463, .int .u64 0, .int .i64 0] 2 ?_; refine bp_ #[.int .i64 t462, .bool false, .int .u64 0, .int .i64 0] 1 ?_; refine bp_ #[.int .i64 0, .bool false, .int .u64 0, .int .i64 0] 0 ?_; exact BK432.out) Tryd.underlying30 rfl (by kernel_rfl)) rfl ?_
     exact ⟨rf_, bw_ HB.out⟩
    ·rw [if_neg c44] at H
     have c44b0 : decide (64 < t457) = false := decide_eq_false c44
     clear c44
     replace H := Option.bind_eq_some_iff.mp H
     obtain ⟨t466, A770, H⟩ := H
     (try dsimp only at H)
     have A77 := Aside0.mk A770
     clear A770
     replace H := Option.bind_eq_some_iff.mp H
     obtain ⟨⟨t467, t468, t469, t470⟩, A780, H⟩ := H
     (try dsimp only at H)
     have A78 := Aside0.mk A780
     clear A780
     simp only [Option.some.injEq, Prod.mk.injEq] at H
     obtain ⟨rfl, rfl, rfl, rfl⟩ := H
     go_enter Tryd.func13, Tryd.ntmps13
     try go_wp2_with (first | ((with_reducible refine gate_dst (N := 2) rfl ?_); refine bx_ 2 #[.bool a0_0, .slice A0_1 l0_1.length c0_1, .int .i64 a0_2] 26 ?_; intro gb431 hg w79 hbox hb; have BK431 := Aside0.mk (hbox); have GW431 := ge_ hg HB; have GE431 := ge_ hg HB; replace HB := bq_ HB hb; clear hb hbox hg) | ((with_reducible refine gate_dst (N := 4) rfl ?_); refine bx_ 4 #[.int .i64 0, .bool false, .int .u64 0, .int .i64 0] 30 ?_; intro gb432 hg w80 hbox hb; have BK432 := Aside0.mk (hbox); have GW432 := ge_ hg HB; have GE432 := ge_ hg HB; have NB431_432 := nb_ hg BK431; have NB432_431 := nc_ hg BK431; replace BK431 := kq_ BK431 hb; replace HB := bq_ HB hb; clear hb hbox hg; have hnb81 := NB431_432.out; have hnc81 := NB432_431.out; obtain ⟨hcz82_0, hcz82_1, hcz82_2, hfz82_0, hfz82_1, hfz82_2⟩ := c3_ BK431) | ((with_reducible refine gate_callee (f := 44) rfl ?_); refine gl_ (some 14) Tryd.func44 #[.agg #[.bool a0_0, .slice A0_1 l0_1.length c0_1], .int .i64 a0_2] ?_; (with_reducible refine (pelorusref03_Make.calls k a0_0 _ _ l0_1 a0_2 t433 t434 t437 _ ?side1 ?side2 A3.out).mono ?_); (case side1 => exact kc_ (Kd.C_below HR0_1.out HB.out)); (case side2 => exact HC0_1.out); rintro e w83 ⟨v435, rfl, ho0, hb⟩; refine ⟨_, rfl, ?_⟩; have HO436 := Aside0.mk (Kd.R_lower ho0 (below_size (bw_ HB.out))); replace BK431 := kq_ BK431 hb; replace BK432 := kq_ BK432 hb; replace HB := bq_ HB hb; (try clear hb); (try clear hb2); (try clear hk); (try clear hi); (try clear ho0)) | ((with_reducible refine gate_dst (N := 5) rfl ?_); refine bx_ 5 #[.bool false, .slice none 0 0, .int .i64 0] 26 ?_; intro gb438 hg w84 hbox hb; have BK438 := Aside0.mk (hbox); have GW438 := ge_ hg HB; have GE438 := ge_ hg HB; have NB431_438 := nb_ hg BK431; have NB438_431 := nc_ hg BK431; have NB432_438 := nb_ hg BK432; have NB438_432 := nc_ hg BK432; replace HO436 := Aside0.mk (Kd.R_below (kr_ HO436.out) hb); replace BK431 := kq_ BK431 hb; replace BK432 := kq_ BK432 hb; replace HB := bq_ HB hb; clear hb hbox hg; have hnb85 := NB438_431.out; have hnc85 := NB431_438.out; have hnb86 := NB438_432.out; have hnc86 := NB432_438.out; obtain ⟨hcz87_0, hcz87_1, hcz87_2, hfz87_0, hfz87_1, hfz87_2⟩ := c3_ BK438; obtain ⟨Ao88, co88, eo88⟩ := Kd.R_slice HO436.out; subst eo88) | ((with_reducible refine gate_callee (f := 45) rfl ?_); refine gl_ (some 29) Tryd.func45 #[.slice Ao88 t434.length co88] ?_; (with_reducible refine (pelorusref01_Len.calls k _ _ t434 t439 _ ?side1 ?side2 A16.out).mono ?_); (case side1 => refine (Kd.R_reads' (e := 53) (base := w.heap.size) (ok := fun k_ => True) (n := t434.length) (c := co88) ?_).2.2; exact (kr_ ((Kd.R_mono (Kd.R_far (p := ⟨gb438, 2, none⟩) (Kd.R_far (p := ⟨gb438, 1, none⟩) (Kd.R_far (p := ⟨gb438, 0, none⟩) (Kd.R_types HO436.out BK438.out (by decide)) (fun _ hk => hk.2) (.bool t433)) (fun _ hk => hk.2) (.slice Ao88 t434.length co88)) (fun _ hk => hk.2) (.int .i64 t437)) (fun _ h_ => h_.1))))); (case side2 => exact (Kd.R_reads' HO436.out).2.1); rintro e w89 ⟨rfl, hb⟩; refine ⟨_, rfl, ?_⟩; have n0_ := Aside0.mk (Kd.R_below (kr_ ((Kd.R_mono (Kd.R_far (p := ⟨gb438, 2, none⟩) (Kd.R_far (p := ⟨gb438, 1, none⟩) (Kd.R_far (p := ⟨gb438, 0, none⟩) (Kd.R_types HO436.out BK438.out (by decide)) (fun _ hk => hk.2) (.bool t433)) (fun _ hk => hk.2) (.slice Ao88 t434.length co88)) (fun _ hk => hk.2) (.int .i64 t437)) (fun _ h_ => h_.1)))) hb); have n1_ := Aside0.mk (blk_below (g := gb431) (o := .cells #[.bool a0_0, .slice A0_1 l0_1.length c0_1, .int .i64 a0_2] 26 (0, 0)) (by refine kb_ ?_; refine bf_ NB431_438 ?_; refine bf_ NB431_438 ?_; refine bf_ NB431_438 ?_; exact BK431.out) hb); have n2_ := Aside0.mk (blk_below (g := gb432) (o := .cells #[.int .i64 0, .bool false, .int .u64 0, .int .i64 0] 30 (0, 0)) (by refine kb_ ?_; refine bf_ NB432_438 ?_; refine bf_ NB432_438 ?_; refine bf_ NB432_438 ?_; exact BK432.out) hb); have n3_ := Aside0.mk (blk_below (g := gb438) (o := .cells #[.bool t433, .slice Ao88 t434.length co88, .int .i64 t437] 26 (0, 0)) (by refine kb_ ?_; refine bp_ #[.bool t433, .slice Ao88 t434.length co88, .int .i64 0] 2 ?_; refine bp_ #[.bool t433, .slice none 0 0, .int .i64 0] 1 ?_; refine bp_ #[.bool false, .slice none 0 0, .int .i64 0] 0 ?_; exact BK438.out) hb); have n4_ := bq_ HB hb; clear HO436; clear BK431; clear BK432; clear BK438; clear HB; have HO436 := n0_; have BK431 := n1_; have BK432 := n2_; have BK438 := n3_; have HB := n4_; clear n0_ n1_ n2_ n3_ n4_; (try clear hb); (try clear hb2); (try clear hk); (try clear hi); obtain ⟨hcz90_0, hcz90_1, hcz90_2, hfz90_0, hfz90_1, hfz90_2⟩ := c3_ BK438) | ((with_reducible refine gate_callee (f := 49) rfl ?_); refine gl_ (some 54) Tryd.func49 #[.slice Ao88 t434.length co88, .int .i64 (wrap64 (t439 - 64))] ?_; (with_reducible refine (pelorusref01_Shr.calls k _ _ t434 (wrap64 (t439 - 64)) t448 _ ?side1 ?side2 A40.out).mono ?_); (case side1 => exact kc_ (Kd.R_reads' HO436.out).2.2); (case side2 => exact (Kd.R_reads' HO436.out).2.1); rintro e w91 ⟨v449, rfl, ho0, hb⟩; refine ⟨_, rfl, ?_⟩; have HO450 := Aside0.mk (Kd.R_lower (Kd.R_new' ho0 (Kd.R_lt (kr_ HO436.out))) (below_size (bw_ HB.out))); replace HO436 := Aside0.mk (Kd.R_elder' (kr_ HO436.out) (Kd.R_base ho0) hb); replace BK431 := kq_ BK431 hb; replace BK432 := kq_ BK432 hb; replace BK438 := kq_ BK438 hb; replace HB := bq_ HB hb; (try clear hb); (try clear hb2); (try clear hk); (try clear hi); (try clear ho0); obtain ⟨hcz92_0, hcz92_1, hcz92_2, hfz92_0, hfz92_1, hfz92_2⟩ := c3_ BK438) | ((with_reducible refine gate_dst (N := 62) rfl ?_); refine Kd.R_lit (Kd.int .u32) _ 53 ?hg (N := 62) ?hd (xs := ([1] : List Int)) (inner := [.int .u32 1]) (ok := fun _ => True) (okp := fun _ => True) ?hr ?hp (fun _ hk => hk) trivial (Below.refl _ _) (Nat.le_refl _) (by simp) ?_; (case hd => rfl); (case hg => rfl); (case hr => first | (go_simp; done) | (go_simp; rfl)); (case hp => exact (Reps.one (show Kd.M (Kd.int .u32) _ _ _ 1 [.int .u32 1] from rfl) (Reps.none _ _))); intro v452 w93 ho94 hb hg_ hnew_; clear hg_ hnew_; (first | rw [← Ny451.out] at ho94 | (simp only [Int.reduceToNat] at ho94; rw [← Ny451.out] at ho94)); have HO453 := Aside0.mk (Kd.R_lower (Kd.R_new' (Kd.R_new' ho94 (Kd.R_lt (kr_ HO436.out))) (Kd.R_lt (kr_ HO450.out))) (below_size (bw_ HB.out))); replace HO436 := Aside0.mk (Kd.R_elder' (kr_ HO436.out) (Kd.R_base ho94) hb); replace HO450 := Aside0.mk (Kd.R_elder' (kr_ HO450.out) (Kd.R_base ho94) hb); replace BK431 := kq_ BK431 hb; replace BK432 := kq_ BK432 hb; replace BK438 := kq_ BK438 hb; replace HB := bq_ HB hb; clear hb ho94; obtain ⟨Ao95, co95, eo95⟩ := Kd.R_slice HO450.out; subst eo95; obtain ⟨Ao96, co96, eo96⟩ := Kd.R_slice HO453.out; subst eo96) | ((with_reducible refine gate_callee (f := 50) rfl ?_); refine gl_ (some 63) Tryd.func50 #[.slice Ao95 t448.length co95, .slice Ao96 y451.length co96] ?_; (with_reducible refine (pelorusref01_Add.calls k _ _ t448 _ _ y451 t454 _ ?side1 ?side2 ?side3 ?side4 A42.out).mono ?_); (case side1 => exact kc_ (Kd.R_reads' HO450.out).2.2); (case side2 => exact (Kd.R_reads' HO450.out).2.1); (case side3 => exact kc_ (Kd.R_reads' HO453.out).2.2); (case side4 => exact (Kd.R_reads' HO453.out).2.1); rintro e w97 ⟨v455, rfl, ho0, hb⟩; refine ⟨_, rfl, ?_⟩; have HO456 := Aside0.mk (Kd.R_lower (Kd.R_new' (Kd.R_new' (Kd.R_new' ho0 (Kd.R_lt (kr_ HO436.out))) (Kd.R_lt (kr_ HO450.out))) (Kd.R_lt (kr_ HO453.out))) (below_size (bw_ HB.out))); replace HO436 := Aside0.mk (Kd.R_elder' (kr_ HO436.out) (Kd.R_base ho0) hb); replace HO450 := Aside0.mk (Kd.R_elder' (kr_ HO450.out) (Kd.R_base ho0) hb); replace HO453 := Aside0.mk (Kd.R_elder' (kr_ HO453.out) (Kd.R_base ho0) hb); replace BK431 := kq_ BK431 hb; replace BK432 := kq_ BK432 hb; replace BK438 := kq_ BK438 hb; replace HB := bq_ HB hb; (try clear hb); (try clear hb2); (try clear hk); (try clear hi); (try clear ho0); obtain ⟨Ao98, co98, eo98⟩ := Kd.R_slice HO456.out; subst eo98) | ((with_reducible refine gate_callee (f := 45) rfl ?_); refine gl_ (some 65) Tryd.func45 #[.slice Ao98 t454.length co98] ?_; (with_reducible refine (pelorusref01_Len.calls k _ _ t454 t457 _ ?side1 ?side2 A43.out).mono ?_); (case side1 => exact kc_ (Kd.R_reads' HO456.out).2.2); (case side2 => exact (Kd.R_reads' HO456.out).2.1); rintro e w99 ⟨rfl, hb⟩; refine ⟨_, rfl, ?_⟩; replace HO436 := Aside0.mk (Kd.R_below (kr_ HO436.out) hb); replace HO450 := Aside0.mk (Kd.R_below (kr_ HO450.out) hb); replace HO453 := Aside0.mk (Kd.R_below (kr_ HO453.out) hb); replace HO456 := Aside0.mk (Kd.R_below (kr_ HO456.out) hb); replace BK431 := kq_ BK431 hb; replace BK432 := kq_ BK432 hb; replace BK438 := kq_ BK438 hb; replace HB := bq_ HB hb; (try clear hb); (try clear hb2); (try clear hk); (try clear hi)))
     replace HO436 := Aside0.mk (Kd.R_drew HO436.out)
     replace HO450 := Aside0.mk (Kd.R_drew HO450.out)
     replace HO453 := Aside0.mk (Kd.R_drew HO453.out)
     replace HO456 := Aside0.mk (Kd.R_drew HO456.out)
     replace BK431 := Aside0.mk (blk_drew BK431.out)
     replace BK432 := Aside0.mk (blk_drew BK432.out)
     replace BK438 := Aside0.mk (blk_drew BK438.out)
     replace HB := Aside0.mk (below_drew1 HB.out)
     refine start_ (n := 9) (S := fun w' => w'.cell? ⟨gb438, 0, none⟩ = some (.bool t433) ∧ w'.cell? ⟨gb438, 1, none⟩ = some (.slice Ao88 t434.length co88) ∧ w'.cell? ⟨gb438, 2, none⟩ = some (.int .i64 t437)) (ds := []) #[false, false, false, false, false, false, false, false, false] (by kernel_rfl) rfl rfl ⟨(blk_cell BK438.out 0).trans rfl, (blk_cell BK438.out 1).trans rfl, (blk_cell BK438.out 2).trans rfl⟩ (fun hHeld => ?_); refine with_tabW pelorusref05_Round.tab15 pelorusref05_Round.bits15 (fun HT_ HW_ => ?_)
     generalize w99.drew = w100 at HO436 HO450 HO453 HO456 BK431 BK432 BK438 HB hHeld ⊢
     refine pure_ (i := 0) (N := some 71) (v := ?_) (a' := ?_) #[true, false, false, false, false, false, false, false, false] rfl rfl (any_of HT_.out (by kernel_rfl)) (fun _ _ _ h => h) (Or.inl ⟨by rfl, ?_⟩) ?_ ?_
     rotate_left
     ·intro w'
      go_simp
      with_reducible rfl
     rotate_left
     ·exact pt_
     refine pure_ (i := 1) (N := some 72) (v := ?_) (a' := ?_) #[true, true, false, false, false, false, false, false, false] rfl rfl (any_of HT_.out (by kernel_rfl)) (fun _ _ _ h => h) (Or.inl ⟨by rfl, ?_⟩) ?_ ?_
     rotate_left
     ·intro w'
      go_simp
      with_reducible rfl
     rotate_left
     ·exact pt_
     refine pure_ (i := 3) (N := some 74) (v := ?_) (a' := ?_) #[true, true, false, true, false, false, false, false, false] rfl rfl (any_of HT_.out (by kernel_rfl)) (fun _ _ _ h => h) (Or.inl ⟨by rfl, ?_⟩) ?_ ?_
     rotate_left
     ·intro w'
      go_simp
      with_reducible rfl
     rotate_left
     ·exact pt_
     refine pure_ (i := 5) (N := some 76) (v := ?_) (a' := ?_) #[true, true, false, true, false, true, false, false, false] rfl rfl (any_of HT_.out (by kernel_rfl)) (fun _ _ _ h => h) (Or.inl ⟨by rfl, ?_⟩) ?_ ?_
     rotate_left
     ·intro w'
      go_simp
      with_reducible rfl
     rotate_left
     ·exact pt_
     refine pure_ (i := 6) (N := some 77) (v := ?_) (a' := ?_) #[true, true, false, true, false, true, true, false, false] rfl rfl (any_of HT_.out (by kernel_rfl)) (fun _ _ _ h => h) (Or.inl ⟨by rfl, ?_⟩) ?_ ?_
     rotate_left
     ·intro w'
      go_simp
      with_reducible rfl
     rotate_left
     ·exact pt_
     refine take_ (i := 2) (N := some 73) (v := ?_) (a' := ?_) #[true, true, true, true, false, true, true, false, false] rfl rfl (take_ofW HT_.out HW_.out (by kernel_rfl)) (fun _ _ _ h => h) (Or.inl ⟨by rfl, ?_⟩) hHeld ?_ ?_
     rotate_left
     ·rintro w' ⟨s0, s1, s2⟩
      go_simp
      with_reducible rfl
     rotate_left
     ·exact pt_
     refine one_ (i := 4) (N := some 75) #[true, true, true, true, true, true, true, false, false] rfl rfl (one_of HT_.out (by kernel_rfl)) (by decide) (fun K hK => ?_)
     refine gs_ Tryd.func47 #[.slice Ao98 t454.length co98] ?_
     with_reducible refine (pelorusref05_word.calls k _ _ t454 t466 _ ?side1 ?side2 A77.out).mono ?_
     (case side1 => exact kc_ (Kd.R_reads' HO456.out).2.2)
     (case side2 => exact (Kd.R_reads' HO456.out).2.1)
     rintro e w' ⟨rfl, ⟨nd, rfl⟩⟩
     refine ⟨_, rfl, ?_⟩
     refine hK.out _ _ ⟨(blk_cell BK438.out 0).trans rfl, (blk_cell BK438.out 1).trans rfl, (blk_cell BK438.out 2).trans rfl⟩ (fun hHeld => ?_)
     clear hK K
     refine norm_ (a' := ?_) ?_ ?_
     rotate_left
     ·show Act.put _ (some 75) _ = _
      exact pt_
     refine one_ (i := 7) (N := some 78) #[true, true, true, true, true, true, true, true, false] rfl rfl (one_of HT_.out (by kernel_rfl)) (by decide) (fun K hK => ?_)
     refine gs_ Tryd.func46 #[.bool t433, .int .u64 t466, .int .i64 (wrap64 ((wrap64 (t437 + t439)) - 64)), .bool (a1 != t433)] ?_
     with_reducible refine (pelorusref05_finite.calls t433 t466 (wrap64 ((wrap64 (t437 + t439)) - 64)) (a1 != t433) t467 t468 t469 t470 _ A78.out).mono ?_
     rintro e w101 ⟨rfl, hb⟩
     refine ⟨_, rfl, ?_⟩
     replace HO436 := Aside0.mk (Kd.R_below (kr_ HO436.out) hb)
     replace HO450 := Aside0.mk (Kd.R_below (kr_ HO450.out) hb)
     replace HO453 := Aside0.mk (Kd.R_below (kr_ HO453.out) hb)
     replace HO456 := Aside0.mk (Kd.R_below (kr_ HO456.out) hb)
     replace BK431 := kq_ BK431 hb
     replace BK432 := kq_ BK432 hb
     replace BK438 := kq_ BK438 hb
     replace HB := bq_ HB hb
     (try clear hb)
     (try clear hb2)
     (try clear hk)
     (try clear hi)
     refine hK.out _ _ ⟨(blk_cell BK438.out 0).trans rfl, (blk_cell BK438.out 1).trans rfl, (blk_cell BK438.out 2).trans rfl⟩ (fun hHeld => ?_)
     clear hK K
     refine norm_ (a' := ?_) ?_ ?_
     rotate_left
     ·show Act.put _ (some 78) _ = _
      exact pt_
     refine one_ (i := 8) (N := none) #[true, true, true, true, true, true, true, true, true] rfl rfl (one_of HT_.out (by kernel_rfl)) (by decide) (fun K hK => ?_)
     have hs102 : w101.cell? ⟨gb432, 0, none⟩ = some (.int .i64 0) := (blk_cell BK432.out 0).trans rfl
     have hfs102 := fz_ BK432 0
     have hns102_0 := NB431_432.out
     have hns102_2 := NB438_432.out
     have hms102_0 := NB432_431.out
     have hms102_2 := NB432_438.out
     have hs103 : w101.cell? ⟨gb432, 1, none⟩ = some (.bool false) := (blk_cell BK432.out 1).trans rfl
     have hfs103 := fz_ BK432 1
     have hns103_0 := NB431_432.out
     have hns103_2 := NB438_432.out
     have hms103_0 := NB432_431.out
     have hms103_2 := NB432_438.out
     have hs104 : w101.cell? ⟨gb432, 2, none⟩ = some (.int .u64 0) := (blk_cell BK432.out 2).trans rfl
     have hfs104 := fz_ BK432 2
     have hns104_0 := NB431_432.out
     have hns104_2 := NB438_432.out
     have hms104_0 := NB432_431.out
     have hms104_2 := NB432_438.out
     have hs105 : w101.cell? ⟨gb432, 3, none⟩ = some (.int .i64 0) := (blk_cell BK432.out 3).trans rfl
     have hfs105 := fz_ BK432 3
     have hns105_0 := NB431_432.out
     have hns105_2 := NB438_432.out
     have hms105_0 := NB432_431.out
     have hms105_2 := NB432_438.out
     refine skip_ (w1 := ?_) (by rfl) rfl ?_ ?_
     rotate_left
     ·go_simp
      rfl
     refine hK.out _ _ ⟨((cell_far (p := ⟨gb432, _, none⟩) NB438_432.out _).trans (((cell_far (p := ⟨gb432, _, none⟩) NB438_432.out _).trans (((cell_far (p := ⟨gb432, _, none⟩) NB438_432.out _).trans (((cell_far (p := ⟨gb432, _, none⟩) NB438_432.out _).trans (hHeld.1)))))))), ((cell_far (p := ⟨gb432, _, none⟩) NB438_432.out _).trans (((cell_far (p := ⟨gb432, _, none⟩) NB438_432.out _).trans (((cell_far (p := ⟨gb432, _, none⟩) NB438_432.out _).trans (((cell_far (p := ⟨gb432, _, none⟩) NB438_432.out _).trans (hHeld.2.1)))))))), ((cell_far (p := ⟨gb432, _, none⟩) NB438_432.out _).trans (((cell_far (p := ⟨gb432, _, none⟩) NB438_432.out _).trans (((cell_far (p := ⟨gb432, _, none⟩) NB438_432.out _).trans (((cell_far (p := ⟨gb432, _, none⟩) NB438_432.out _).trans (hHeld.2.2))))))))⟩ (fun hHeld => ?_)
     clear hK K
     refine done_ (done_of HT_.out (by kernel_rfl)) ?_
     try go_wp2
     refine bodyPost_ret (results_cell_row rfl _ _ gb432 30 #[.int .i64 t467, .bool t468, .int .u64 t469, .int .i64 t470] (0, 0) _ rfl (by refine kb_ ?_; refine bp_ #[.int .i64 t467, .bool t468, .int .u64 t469, .int .i64 0] 3 ?_; refine bp_ #[.int .i64 t467, .bool t468, .int .u64 0, .int .i64 0] 2 ?_; refine bp_ #[.int .i64 t467, .bool false, .int .u64 0, .int .i64 0] 1 ?_; refine bp_ #[.int .i64 0, .bool false, .int .u64 0, .int .i64 0] 0 ?_; exact BK432.out) Tryd.underlying30 rfl (by kernel_rfl)) rfl ?_
     exact ⟨rf_, bw_ HB.out⟩
   ·rw [if_neg c41] at H
    have c41b0 : (a1 != t433) = false := by simpa using c41
    (try (have c41b1 : decide (a1 = t433) = true := by simpa using c41))
    (try (have c41b2 : (a1 == t433) = true := by simpa using c41))
    clear c41
    replace H := Option.bind_eq_some_iff.mp H
    obtain ⟨t471, A1060, H⟩ := H
    (try dsimp only at H)
    have A106 := Aside0.mk A1060
    clear A1060
    replace H := Option.bind_eq_some_iff.mp H
    obtain ⟨⟨t472, t473, t474, t475⟩, A1070, H⟩ := H
    (try dsimp only at H)
    have A107 := Aside0.mk A1070
    clear A1070
    simp only [Option.some.injEq, Prod.mk.injEq] at H
    obtain ⟨rfl, rfl, rfl, rfl⟩ := H
    go_enter Tryd.func13, Tryd.ntmps13
    try go_wp2_with (first | ((with_reducible refine gate_dst (N := 2) rfl ?_); refine bx_ 2 #[.bool a0_0, .slice A0_1 l0_1.length c0_1, .int .i64 a0_2] 26 ?_; intro gb431 hg w108 hbox hb; have BK431 := Aside0.mk (hbox); have GW431 := ge_ hg HB; have GE431 := ge_ hg HB; replace HB := bq_ HB hb; clear hb hbox hg) | ((with_reducible refine gate_dst (N := 4) rfl ?_); refine bx_ 4 #[.int .i64 0, .bool false, .int .u64 0, .int .i64 0] 30 ?_; intro gb432 hg w109 hbox hb; have BK432 := Aside0.mk (hbox); have GW432 := ge_ hg HB; have GE432 := ge_ hg HB; have NB431_432 := nb_ hg BK431; have NB432_431 := nc_ hg BK431; replace BK431 := kq_ BK431 hb; replace HB := bq_ HB hb; clear hb hbox hg; have hnb110 := NB431_432.out; have hnc110 := NB432_431.out; obtain ⟨hcz111_0, hcz111_1, hcz111_2, hfz111_0, hfz111_1, hfz111_2⟩ := c3_ BK431) | ((with_reducible refine gate_callee (f := 44) rfl ?_); refine gl_ (some 14) Tryd.func44 #[.agg #[.bool a0_0, .slice A0_1 l0_1.length c0_1], .int .i64 a0_2] ?_; (with_reducible refine (pelorusref03_Make.calls k a0_0 _ _ l0_1 a0_2 t433 t434 t437 _ ?side1 ?side2 A3.out).mono ?_); (case side1 => exact kc_ (Kd.C_below HR0_1.out HB.out)); (case side2 => exact HC0_1.out); rintro e w112 ⟨v435, rfl, ho0, hb⟩; refine ⟨_, rfl, ?_⟩; have HO436 := Aside0.mk (Kd.R_lower ho0 (below_size (bw_ HB.out))); replace BK431 := kq_ BK431 hb; replace BK432 := kq_ BK432 hb; replace HB := bq_ HB hb; (try clear hb); (try clear hb2); (try clear hk); (try clear hi); (try clear ho0)) | ((with_reducible refine gate_dst (N := 5) rfl ?_); refine bx_ 5 #[.bool false, .slice none 0 0, .int .i64 0] 26 ?_; intro gb438 hg w113 hbox hb; have BK438 := Aside0.mk (hbox); have GW438 := ge_ hg HB; have GE438 := ge_ hg HB; have NB431_438 := nb_ hg BK431; have NB438_431 := nc_ hg BK431; have NB432_438 := nb_ hg BK432; have NB438_432 := nc_ hg BK432; replace HO436 := Aside0.mk (Kd.R_below (kr_ HO436.out) hb); replace BK431 := kq_ BK431 hb; replace BK432 := kq_ BK432 hb; replace HB := bq_ HB hb; clear hb hbox hg; have hnb114 := NB438_431.out; have hnc114 := NB431_438.out; have hnb115 := NB438_432.out; have hnc115 := NB432_438.out; obtain ⟨hcz116_0, hcz116_1, hcz116_2, hfz116_0, hfz116_1, hfz116_2⟩ := c3_ BK438; obtain ⟨Ao117, co117, eo117⟩ := Kd.R_slice HO436.out; subst eo117) | ((with_reducible refine gate_callee (f := 45) rfl ?_); refine gl_ (some 29) Tryd.func45 #[.slice Ao117 t434.length co117] ?_; (with_reducible refine (pelorusref01_Len.calls k _ _ t434 t439 _ ?side1 ?side2 A16.out).mono ?_); (case side1 => refine (Kd.R_reads' (e := 53) (base := w.heap.size) (ok := fun k_ => True) (n := t434.length) (c := co117) ?_).2.2; exact (kr_ ((Kd.R_mono (Kd.R_far (p := ⟨gb438, 2, none⟩) (Kd.R_far (p := ⟨gb438, 1, none⟩) (Kd.R_far (p := ⟨gb438, 0, none⟩) (Kd.R_types HO436.out BK438.out (by decide)) (fun _ hk => hk.2) (.bool t433)) (fun _ hk => hk.2) (.slice Ao117 t434.length co117)) (fun _ hk => hk.2) (.int .i64 t437)) (fun _ h_ => h_.1))))); (case side2 => exact (Kd.R_reads' HO436.out).2.1); rintro e w118 ⟨rfl, hb⟩; refine ⟨_, rfl, ?_⟩; have n0_ := Aside0.mk (Kd.R_below (kr_ ((Kd.R_mono (Kd.R_far (p := ⟨gb438, 2, none⟩) (Kd.R_far (p := ⟨gb438, 1, none⟩) (Kd.R_far (p := ⟨gb438, 0, none⟩) (Kd.R_types HO436.out BK438.out (by decide)) (fun _ hk => hk.2) (.bool t433)) (fun _ hk => hk.2) (.slice Ao117 t434.length co117)) (fun _ hk => hk.2) (.int .i64 t437)) (fun _ h_ => h_.1)))) hb); have n1_ := Aside0.mk (blk_below (g := gb431) (o := .cells #[.bool a0_0, .slice A0_1 l0_1.length c0_1, .int .i64 a0_2] 26 (0, 0)) (by refine kb_ ?_; refine bf_ NB431_438 ?_; refine bf_ NB431_438 ?_; refine bf_ NB431_438 ?_; exact BK431.out) hb); have n2_ := Aside0.mk (blk_below (g := gb432) (o := .cells #[.int .i64 0, .bool false, .int .u64 0, .int .i64 0] 30 (0, 0)) (by refine kb_ ?_; refine bf_ NB432_438 ?_; refine bf_ NB432_438 ?_; refine bf_ NB432_438 ?_; exact BK432.out) hb); have n3_ := Aside0.mk (blk_below (g := gb438) (o := .cells #[.bool t433, .slice Ao117 t434.length co117, .int .i64 t437] 26 (0, 0)) (by refine kb_ ?_; refine bp_ #[.bool t433, .slice Ao117 t434.length co117, .int .i64 0] 2 ?_; refine bp_ #[.bool t433, .slice none 0 0, .int .i64 0] 1 ?_; refine bp_ #[.bool false, .slice none 0 0, .int .i64 0] 0 ?_; exact BK438.out) hb); have n4_ := bq_ HB hb; clear HO436; clear BK431; clear BK432; clear BK438; clear HB; have HO436 := n0_; have BK431 := n1_; have BK432 := n2_; have BK438 := n3_; have HB := n4_; clear n0_ n1_ n2_ n3_ n4_; (try clear hb); (try clear hb2); (try clear hk); (try clear hi); obtain ⟨hcz119_0, hcz119_1, hcz119_2, hfz119_0, hfz119_1, hfz119_2⟩ := c3_ BK438) | ((with_reducible refine gate_callee (f := 49) rfl ?_); refine gl_ (some 54) Tryd.func49 #[.slice Ao117 t434.length co117, .int .i64 (wrap64 (t439 - 64))] ?_; (with_reducible refine (pelorusref01_Shr.calls k _ _ t434 (wrap64 (t439 - 64)) t448 _ ?side1 ?side2 A40.out).mono ?_); (case side1 => exact kc_ (Kd.R_reads' HO436.out).2.2); (case side2 => exact (Kd.R_reads' HO436.out).2.1); rintro e w120 ⟨v449, rfl, ho0, hb⟩; refine ⟨_, rfl, ?_⟩; have HO450 := Aside0.mk (Kd.R_lower (Kd.R_new' ho0 (Kd.R_lt (kr_ HO436.out))) (below_size (bw_ HB.out))); replace HO436 := Aside0.mk (Kd.R_elder' (kr_ HO436.out) (Kd.R_base ho0) hb); replace BK431 := kq_ BK431 hb; replace BK432 := kq_ BK432 hb; replace BK438 := kq_ BK438 hb; replace HB := bq_ HB hb; (try clear hb); (try clear hb2); (try clear hk); (try clear hi); (try clear ho0); obtain ⟨hcz121_0, hcz121_1, hcz121_2, hfz121_0, hfz121_1, hfz121_2⟩ := c3_ BK438))
    replace HO436 := Aside0.mk (Kd.R_drew HO436.out)
    replace HO450 := Aside0.mk (Kd.R_drew HO450.out)
    replace BK431 := Aside0.mk (blk_drew BK431.out)
    replace BK432 := Aside0.mk (blk_drew BK432.out)
    replace BK438 := Aside0.mk (blk_drew BK438.out)
    replace HB := Aside0.mk (below_drew1 HB.out)
    obtain ⟨Ao123, co123, eo123⟩ := Kd.R_slice HO450.out
    (first | subst eo123 | (injection eo123 with f1_ f2_ f3_; have f4_ := f1_.symm; have f5_ := f3_.symm; clear f1_ f2_ f3_; subst f4_; subst f5_))
    refine start_ (n := 9) (S := fun w' => w'.cell? ⟨gb438, 0, none⟩ = some (.bool t433) ∧ w'.cell? ⟨gb438, 1, none⟩ = some (.slice Ao117 t434.length co117) ∧ w'.cell? ⟨gb438, 2, none⟩ = some (.int .i64 t437)) (ds := []) #[false, false, false, false, false, false, false, false, false] (by kernel_rfl) rfl rfl ⟨(blk_cell BK438.out 0).trans rfl, (blk_cell BK438.out 1).trans rfl, (blk_cell BK438.out 2).trans rfl⟩ (fun hHeld => ?_); refine with_tabW pelorusref05_Round.tab15 pelorusref05_Round.bits15 (fun HT_ HW_ => ?_)
    generalize w120.drew = w122 at HO436 HO450 BK431 BK432 BK438 HB hHeld ⊢
    refine pure_ (i := 0) (N := some 71) (v := ?_) (a' := ?_) #[true, false, false, false, false, false, false, false, false] rfl rfl (any_of HT_.out (by kernel_rfl)) (fun _ _ _ h => h) (Or.inl ⟨by rfl, ?_⟩) ?_ ?_
    rotate_left
    ·intro w'
     go_simp
     with_reducible rfl
    rotate_left
    ·exact pt_
    refine pure_ (i := 1) (N := some 72) (v := ?_) (a' := ?_) #[true, true, false, false, false, false, false, false, false] rfl rfl (any_of HT_.out (by kernel_rfl)) (fun _ _ _ h => h) (Or.inl ⟨by rfl, ?_⟩) ?_ ?_
    rotate_left
    ·intro w'
     go_simp
     with_reducible rfl
    rotate_left
    ·exact pt_
    refine pure_ (i := 3) (N := some 74) (v := ?_) (a' := ?_) #[true, true, false, true, false, false, false, false, false] rfl rfl (any_of HT_.out (by kernel_rfl)) (fun _ _ _ h => h) (Or.inl ⟨by rfl, ?_⟩) ?_ ?_
    rotate_left
    ·intro w'
     go_simp
     with_reducible rfl
    rotate_left
    ·exact pt_
    refine pure_ (i := 5) (N := some 76) (v := ?_) (a' := ?_) #[true, true, false, true, false, true, false, false, false] rfl rfl (any_of HT_.out (by kernel_rfl)) (fun _ _ _ h => h) (Or.inl ⟨by rfl, ?_⟩) ?_ ?_
    rotate_left
    ·intro w'
     go_simp
     with_reducible rfl
    rotate_left
    ·exact pt_
    refine pure_ (i := 6) (N := some 77) (v := ?_) (a' := ?_) #[true, true, false, true, false, true, true, false, false] rfl rfl (any_of HT_.out (by kernel_rfl)) (fun _ _ _ h => h) (Or.inl ⟨by rfl, ?_⟩) ?_ ?_
    rotate_left
    ·intro w'
     go_simp
     with_reducible rfl
    rotate_left
    ·exact pt_
    refine take_ (i := 2) (N := some 73) (v := ?_) (a' := ?_) #[true, true, true, true, false, true, true, false, false] rfl rfl (take_ofW HT_.out HW_.out (by kernel_rfl)) (fun _ _ _ h => h) (Or.inl ⟨by rfl, ?_⟩) hHeld ?_ ?_
    rotate_left
    ·rintro w' ⟨s0, s1, s2⟩
     go_simp
     with_reducible rfl
    rotate_left
    ·exact pt_
    refine one_ (i := 4) (N := some 75) #[true, true, true, true, true, true, true, false, false] rfl rfl (one_of HT_.out (by kernel_rfl)) (by decide) (fun K hK => ?_)
    refine gs_ Tryd.func47 #[.slice Ao123 t448.length co123] ?_
    with_reducible refine (pelorusref05_word.calls k _ _ t448 t471 _ ?side1 ?side2 A106.out).mono ?_
    (case side1 => exact kc_ (Kd.R_reads' HO450.out).2.2)
    (case side2 => exact (Kd.R_reads' HO450.out).2.1)
    rintro e w' ⟨rfl, ⟨nd, rfl⟩⟩
    refine ⟨_, rfl, ?_⟩
    refine hK.out _ _ ⟨(blk_cell BK438.out 0).trans rfl, (blk_cell BK438.out 1).trans rfl, (blk_cell BK438.out 2).trans rfl⟩ (fun hHeld => ?_)
    clear hK K
    refine norm_ (a' := ?_) ?_ ?_
    rotate_left
    ·show Act.put _ (some 75) _ = _
     exact pt_
    refine one_ (i := 7) (N := some 78) #[true, true, true, true, true, true, true, true, false] rfl rfl (one_of HT_.out (by kernel_rfl)) (by decide) (fun K hK => ?_)
    refine gs_ Tryd.func46 #[.bool t433, .int .u64 t471, .int .i64 (wrap64 ((wrap64 (t437 + t439)) - 64)), .bool (a1 != t433)] ?_
    with_reducible refine (pelorusref05_finite.calls t433 t471 (wrap64 ((wrap64 (t437 + t439)) - 64)) (a1 != t433) t472 t473 t474 t475 _ A107.out).mono ?_
    rintro e w124 ⟨rfl, hb⟩
    refine ⟨_, rfl, ?_⟩
    replace HO436 := Aside0.mk (Kd.R_below (kr_ HO436.out) hb)
    replace HO450 := Aside0.mk (Kd.R_below (kr_ HO450.out) hb)
    replace BK431 := kq_ BK431 hb
    replace BK432 := kq_ BK432 hb
    replace BK438 := kq_ BK438 hb
    replace HB := bq_ HB hb
    (try clear hb)
    (try clear hb2)
    (try clear hk)
    (try clear hi)
    refine hK.out _ _ ⟨(blk_cell BK438.out 0).trans rfl, (blk_cell BK438.out 1).trans rfl, (blk_cell BK438.out 2).trans rfl⟩ (fun hHeld => ?_)
    clear hK K
    refine norm_ (a' := ?_) ?_ ?_
    rotate_left
    ·show Act.put _ (some 78) _ = _
     exact pt_
    refine one_ (i := 8) (N := none) #[true, true, true, true, true, true, true, true, true] rfl rfl (one_of HT_.out (by kernel_rfl)) (by decide) (fun K hK => ?_)
    have hs125 : w124.cell? ⟨gb432, 0, none⟩ = some (.int .i64 0) := (blk_cell BK432.out 0).trans rfl
    have hfs125 := fz_ BK432 0
    have hns125_0 := NB431_432.out
    have hns125_2 := NB438_432.out
    have hms125_0 := NB432_431.out
    have hms125_2 := NB432_438.out
    have hs126 : w124.cell? ⟨gb432, 1, none⟩ = some (.bool false) := (blk_cell BK432.out 1).trans rfl
    have hfs126 := fz_ BK432 1
    have hns126_0 := NB431_432.out
    have hns126_2 := NB438_432.out
    have hms126_0 := NB432_431.out
    have hms126_2 := NB432_438.out
    have hs127 : w124.cell? ⟨gb432, 2, none⟩ = some (.int .u64 0) := (blk_cell BK432.out 2).trans rfl
    have hfs127 := fz_ BK432 2
    have hns127_0 := NB431_432.out
    have hns127_2 := NB438_432.out
    have hms127_0 := NB432_431.out
    have hms127_2 := NB432_438.out
    have hs128 : w124.cell? ⟨gb432, 3, none⟩ = some (.int .i64 0) := (blk_cell BK432.out 3).trans rfl
    have hfs128 := fz_ BK432 3
    have hns128_0 := NB431_432.out
    have hns128_2 := NB438_432.out
    have hms128_0 := NB432_431.out
    have hms128_2 := NB432_438.out
    refine skip_ (w1 := ?_) (by rfl) rfl ?_ ?_
    rotate_left
    ·go_simp
     rfl
    refine hK.out _ _ ⟨((cell_far (p := ⟨gb432, _, none⟩) NB438_432.out _).trans (((cell_far (p := ⟨gb432, _, none⟩) NB438_432.out _).trans (((cell_far (p := ⟨gb432, _, none⟩) NB438_432.out _).trans (((cell_far (p := ⟨gb432, _, none⟩) NB438_432.out _).trans (hHeld.1)))))))), ((cell_far (p := ⟨gb432, _, none⟩) NB438_432.out _).trans (((cell_far (p := ⟨gb432, _, none⟩) NB438_432.out _).trans (((cell_far (p := ⟨gb432, _, none⟩) NB438_432.out _).trans (((cell_far (p := ⟨gb432, _, none⟩) NB438_432.out _).trans (hHeld.2.1)))))))), ((cell_far (p := ⟨gb432, _, none⟩) NB438_432.out _).trans (((cell_far (p := ⟨gb432, _, none⟩) NB438_432.out _).trans (((cell_far (p := ⟨gb432, _, none⟩) NB438_432.out _).trans (((cell_far (p := ⟨gb432, _, none⟩) NB438_432.out _).trans (hHeld.2.2))))))))⟩ (fun hHeld => ?_)
    clear hK K
    refine done_ (done_of HT_.out (by kernel_rfl)) ?_
    try go_wp2
    refine bodyPost_ret (results_cell_row rfl _ _ gb432 30 #[.int .i64 t472, .bool t473, .int .u64 t474, .int .i64 t475] (0, 0) _ rfl (by refine kb_ ?_; refine bp_ #[.int .i64 t472, .bool t473, .int .u64 t474, .int .i64 0] 3 ?_; refine bp_ #[.int .i64 t472, .bool t473, .int .u64 0, .int .i64 0] 2 ?_; refine bp_ #[.int .i64 t472, .bool false, .int .u64 0, .int .i64 0] 1 ?_; refine bp_ #[.int .i64 0, .bool false, .int .u64 0, .int .i64 0] 0 ?_; exact BK432.out) Tryd.underlying30 rfl (by kernel_rfl)) rfl ?_
    exact ⟨rf_, bw_ HB.out⟩

end Go.Proofs.YtkemnoejpbknhaaDoor.PA
