-- Laid by this work's own program; Lean checks it.
import Derived.Test.YthlhogcnfaiphaaDoorPAx0
import Derived.Test.YthlhogcnfaiphaaDoorPAx1
import Derived.Test.YthlhogcnfaiphaaDoorPAx2
import Derived.Test.YthlhogcnfaiphaaDoorPAx3
import Derived.Test.YthlhogcnfaiphaaDoorPAx5
import Derived.Test.YthlhogcnfaiphaaDoorPAx6
namespace Go.Proofs.YthlhogcnfaiphaaDoor.PA
open Go.RowKit Go.Proofs.YthlhogcnfaiphaaDoorW.PrintWords Go.Proofs.YthlhogcnfaiphaaDoorW.PrintLast Go.Proofs.YthlhogcnfaiphaaDoorW.PrintMore
attribute [local go_sem] max2_int min2_int max_two min_two max_three min_three max_four min_four   -- for this text's walks alone
set_option linter.unusedVariables false
set_option linter.unusedSimpArgs false

attribute [local go_sem ↓ high] isSome_set_
attribute [local go_sem high] eqA24
/-! ### peloruslaw06_awake: function 4 -/
theorem peloruslaw06_awake.tab3 : rtab .any (opsOf Tryd.f4 3) = peloruslaw06_awake.T3 := by kernel_rfl
theorem peloruslaw06_awake.bits3 : waitsOk peloruslaw06_awake.T3.2 peloruslaw06_awake.B3 = true := by kernel_rfl
set_option maxHeartbeats 8000000 in
set_option maxRecDepth 100000 in
theorem peloruslaw06_awake.calls (k : Nat)  (r : Bool) (w : World) (hr_ : r = true) (h : peloruslaw06_awake.f k  = some r) :
  Calls Tryd.prog 4 #[] w fun e w' => e = .returned (.bool r) ∧ Below w.heap.size w w' := by
 have HRT_ := Aside0.mk hr_
 clear hr_
 have hu24 := Tryd.underlying24
 have HB := Aside0.mk (Below.refl w.heap.size w)
 have H : ((num_Of.f k 1).bind fun bt277 => ((arith_Add.f k bt277.1 bt277.2.1 bt277.2.2.1 bt277.2.2.2 1 false 9223372036854775808 (-133) true).bind fun bt283 => ((num_Next.f k bt277.1 bt277.2.1 bt277.2.2.1 bt277.2.2.2 true).bind fun bt287 => (if (bt283.1 == bt287.1 && (bt283.2.1 == bt287.2.1 && (bt283.2.2.1 == bt287.2.2.1 && (bt283.2.2.2 == bt287.2.2.2)))) = true then ((arith_Add.f k bt277.1 bt277.2.1 bt277.2.2.1 bt277.2.2.2 1 false 9223372036854775808 (-133) false).bind fun bt291 => (if (bt291.1 == bt277.1 && (bt291.2.1 == bt277.2.1 && (bt291.2.2.1 == bt277.2.2.1 && (bt291.2.2.2 == bt277.2.2.2)))) = true then (if bt277.1 = 1 then ((num_Infinite.f false).bind fun bt295 => ((num_Of.f k (-2)).bind fun bt299 => ((arith_Mul.f k bt295.1 bt295.2.1 bt295.2.2.1 bt295.2.2.2 bt299.1 bt299.2.1 bt299.2.2.1 bt299.2.2.2 true).bind fun bt303 => ((num_Infinite.f true).bind fun bt307 => (some (bt303.1 == bt307.1 && (bt303.2.1 == bt307.2.1 && (bt303.2.2.1 == bt307.2.2.1 && (bt303.2.2.2 == bt307.2.2.2))))))))) else (some false)) else (some false))) else (some false))))) = some r := h
 clear h
 replace H := Option.bind_eq_some_iff.mp H
 obtain ⟨⟨t277, t278, t279, t280⟩, A10, H⟩ := H
 (try dsimp only at H)
 have A1 := Aside0.mk A10
 clear A10
 replace H := Option.bind_eq_some_iff.mp H
 obtain ⟨⟨t283, t284, t285, t286⟩, A20, H⟩ := H
 (try dsimp only at H)
 have A2 := Aside0.mk A20
 clear A20
 replace H := Option.bind_eq_some_iff.mp H
 obtain ⟨⟨t287, t288, t289, t290⟩, A30, H⟩ := H
 (try dsimp only at H)
 have A3 := Aside0.mk A30
 clear A30
 by_cases c4 : (t283 == t287 && (t284 == t288 && (t285 == t289 && (t286 == t290)))) = true
 ·rw [if_pos c4] at H
  have c4b0 : (t283 == t287 && (t284 == t288 && (t285 == t289 && (t286 == t290)))) = true := c4
  (try (have c4b1 : decide (t283 = t287 && (t284 == t288 && (t285 == t289 && (t286 == t290)))) = true := by simpa using c4))
  (try (have c4b2 : (t283 == t287 && (t284 == t288 && (t285 == t289 && (t286 == t290)))) = true := by simpa using c4))
  clear c4
  replace H := Option.bind_eq_some_iff.mp H
  obtain ⟨⟨t291, t292, t293, t294⟩, A50, H⟩ := H
  (try dsimp only at H)
  have A5 := Aside0.mk A50
  clear A50
  by_cases c6 : (t291 == t277 && (t292 == t278 && (t293 == t279 && (t294 == t280)))) = true
  ·rw [if_pos c6] at H
   have c6b0 : (t291 == t277 && (t292 == t278 && (t293 == t279 && (t294 == t280)))) = true := c6
   (try (have c6b1 : decide (t291 = t277 && (t292 == t278 && (t293 == t279 && (t294 == t280)))) = true := by simpa using c6))
   (try (have c6b2 : (t291 == t277 && (t292 == t278 && (t293 == t279 && (t294 == t280)))) = true := by simpa using c6))
   clear c6
   by_cases c7 : t277 = 1
   ·rw [if_pos c7] at H
    have c7b0 : (t277 == 1) = true := beq_iff_eq.mpr c7
    have c7b1 : (t277 != 1) = false := bne_eq_false_iff_eq.mpr c7
    clear c7
    replace H := Option.bind_eq_some_iff.mp H
    obtain ⟨⟨t295, t296, t297, t298⟩, A80, H⟩ := H
    (try dsimp only at H)
    have A8 := Aside0.mk A80
    clear A80
    replace H := Option.bind_eq_some_iff.mp H
    obtain ⟨⟨t299, t300, t301, t302⟩, A90, H⟩ := H
    (try dsimp only at H)
    have A9 := Aside0.mk A90
    clear A90
    replace H := Option.bind_eq_some_iff.mp H
    obtain ⟨⟨t303, t304, t305, t306⟩, A100, H⟩ := H
    (try dsimp only at H)
    have A10 := Aside0.mk A100
    clear A100
    replace H := Option.bind_eq_some_iff.mp H
    obtain ⟨⟨t307, t308, t309, t310⟩, A110, H⟩ := H
    (try dsimp only at H)
    have A11 := Aside0.mk A110
    clear A110
    obtain rfl := Option.some.inj H
    go_enter Tryd.func4, Tryd.ntmps4
    try go_wp2_with (first | ((with_reducible refine gate_callee (f := 12) rfl ?_); refine gl_ (some 3) Tryd.func12 #[.int .i64 1] ?_; (with_reducible refine (num_Of.calls k 1 t277 t278 t279 t280 _ A1.out).mono ?_); rintro e w12 ⟨rfl, hb⟩; refine ⟨_, rfl, ?_⟩; replace HB := bq_ HB hb; (try clear hb); (try clear hb2); (try clear hk); (try clear hi)) | ((with_reducible refine gate_dst (N := 1) rfl ?_); refine bx_ 1 #[.int .i64 0, .bool false, .int .u64 0, .int .i64 0] 24 ?_; intro gb281 hg w13 hbox hb; have BK281 := Aside0.mk (hbox); have GW281 := ge_ hg HB; have GE281 := ge_ hg HB; replace HB := bq_ HB hb; clear hb hbox hg; obtain ⟨hcz14_0, hcz14_1, hcz14_2, hcz14_3, hfz14_0, hfz14_1, hfz14_2, hfz14_3⟩ := c4_ BK281) | ((with_reducible refine gate_dst (N := 2) rfl ?_); refine bx_ 2 #[.int .i64 0, .bool false, .int .u64 0, .int .i64 0] 24 ?_; intro gb282 hg w15 hbox hb; have n0_ := Aside0.mk (blk_below (g := gb281) (o := .cells #[.int .i64 t277, .bool t278, .int .u64 t279, .int .i64 t280] 24 (0, 0)) (by refine kb_ ?_; refine bp_ #[.int .i64 t277, .bool t278, .int .u64 t279, .int .i64 0] 3 ?_; refine bp_ #[.int .i64 t277, .bool t278, .int .u64 0, .int .i64 0] 2 ?_; refine bp_ #[.int .i64 t277, .bool false, .int .u64 0, .int .i64 0] 1 ?_; refine bp_ #[.int .i64 0, .bool false, .int .u64 0, .int .i64 0] 0 ?_; exact BK281.out) hb); have n1_ := bq_ HB hb; have n2_ := Aside0.mk (hbox); have n3_ := ge_ hg HB; have n4_ := ge_ hg HB; have n5_ := Aside0.mk ((by rw [hg]; exact Nat.ne_of_lt (blk_lt (g := gb281) (o := .cells #[.int .i64 t277, .bool t278, .int .u64 t279, .int .i64 t280] 24 (0, 0)) (by refine kb_ ?_; refine bp_ #[.int .i64 t277, .bool t278, .int .u64 t279, .int .i64 0] 3 ?_; refine bp_ #[.int .i64 t277, .bool t278, .int .u64 0, .int .i64 0] 2 ?_; refine bp_ #[.int .i64 t277, .bool false, .int .u64 0, .int .i64 0] 1 ?_; refine bp_ #[.int .i64 0, .bool false, .int .u64 0, .int .i64 0] 0 ?_; exact BK281.out)) : gb281 ≠ gb282)); have n6_ := Aside0.mk ((by rw [hg]; exact Nat.ne_of_gt (blk_lt (g := gb281) (o := .cells #[.int .i64 t277, .bool t278, .int .u64 t279, .int .i64 t280] 24 (0, 0)) (by refine kb_ ?_; refine bp_ #[.int .i64 t277, .bool t278, .int .u64 t279, .int .i64 0] 3 ?_; refine bp_ #[.int .i64 t277, .bool t278, .int .u64 0, .int .i64 0] 2 ?_; refine bp_ #[.int .i64 t277, .bool false, .int .u64 0, .int .i64 0] 1 ?_; refine bp_ #[.int .i64 0, .bool false, .int .u64 0, .int .i64 0] 0 ?_; exact BK281.out)) : gb282 ≠ gb281)); clear BK281; clear HB; have BK281 := n0_; have HB := n1_; have BK282 := n2_; have GW282 := n3_; have GE282 := n4_; have NB281_282 := n5_; have NB282_281 := n6_; clear n0_ n1_ n2_ n3_ n4_ n5_ n6_; clear hb hbox hg; have hnb16 := NB282_281.out; have hnc16 := NB281_282.out; obtain ⟨hcz17_0, hcz17_1, hcz17_2, hcz17_3, hfz17_0, hfz17_1, hfz17_2, hfz17_3⟩ := c4_ BK282))
    have n0_ : Aside0 (((((w15.setCell ⟨gb282, 0, none⟩ (.int .i64 1)).setCell ⟨gb282, 1, none⟩ (.bool false)).setCell ⟨gb282, 2, none⟩ (.int .u64 9223372036854775808)).setCell ⟨gb282, 3, none⟩ (.int .i64 (-133))).heap[gb281]? = some (.cells #[.int .i64 t277, .bool t278, .int .u64 t279, .int .i64 t280] 24 (0, 0))) := ⟨by refine kb_ ?_; refine bf_ NB281_282 ?_; refine bf_ NB281_282 ?_; refine bf_ NB281_282 ?_; refine bf_ NB281_282 ?_; exact BK281.out⟩
    have n1_ : Aside0 (((((w15.setCell ⟨gb282, 0, none⟩ (.int .i64 1)).setCell ⟨gb282, 1, none⟩ (.bool false)).setCell ⟨gb282, 2, none⟩ (.int .u64 9223372036854775808)).setCell ⟨gb282, 3, none⟩ (.int .i64 (-133))).heap[gb282]? = some (.cells #[.int .i64 1, .bool false, .int .u64 9223372036854775808, .int .i64 (-133)] 24 (0, 0))) := ⟨by refine kb_ ?_; refine bp_ #[.int .i64 1, .bool false, .int .u64 9223372036854775808, .int .i64 0] 3 ?_; refine bp_ #[.int .i64 1, .bool false, .int .u64 0, .int .i64 0] 2 ?_; refine bp_ #[.int .i64 1, .bool false, .int .u64 0, .int .i64 0] 1 ?_; refine bp_ #[.int .i64 0, .bool false, .int .u64 0, .int .i64 0] 0 ?_; exact BK282.out⟩
    have n2_ : Aside0 (Below w.heap.size w ((((w15.setCell ⟨gb282, 0, none⟩ (.int .i64 1)).setCell ⟨gb282, 1, none⟩ (.bool false)).setCell ⟨gb282, 2, none⟩ (.int .u64 9223372036854775808)).setCell ⟨gb282, 3, none⟩ (.int .i64 (-133)))) := ⟨bw_ HB.out⟩
    (try clear BK281)
    (try clear BK282)
    (try clear HB)
    generalize ((((w15.setCell ⟨gb282, 0, none⟩ (.int .i64 1)).setCell ⟨gb282, 1, none⟩ (.bool false)).setCell ⟨gb282, 2, none⟩ (.int .u64 9223372036854775808)).setCell ⟨gb282, 3, none⟩ (.int .i64 (-133))) = w18 at n0_ n1_ n2_ ⊢
    have BK281 := n0_
    have BK282 := n1_
    have HB := n2_
    clear n0_ n1_ n2_
    replace BK281 := Aside0.mk (blk_drew BK281.out)
    replace BK282 := Aside0.mk (blk_drew BK282.out)
    replace HB := Aside0.mk (below_drew1 HB.out)
    refine start_ (n := 26) (S := fun w' => w'.cell? ⟨gb281, 0, none⟩ = some (.int .i64 t277) ∧ w'.cell? ⟨gb281, 1, none⟩ = some (.bool t278) ∧ w'.cell? ⟨gb281, 2, none⟩ = some (.int .u64 t279) ∧ w'.cell? ⟨gb281, 3, none⟩ = some (.int .i64 t280) ∧ w'.cell? ⟨gb282, 0, none⟩ = some (.int .i64 1) ∧ w'.cell? ⟨gb282, 1, none⟩ = some (.bool false) ∧ w'.cell? ⟨gb282, 2, none⟩ = some (.int .u64 9223372036854775808) ∧ w'.cell? ⟨gb282, 3, none⟩ = some (.int .i64 (-133))) (ds := []) #[false, false, false, false, false, false, false, false, false, false, false, false, false, false, false, false, false, false, false, false, false, false, false, false, false, false] (by kernel_rfl) rfl rfl ⟨(blk_cell BK281.out 0).trans rfl, (blk_cell BK281.out 1).trans rfl, (blk_cell BK281.out 2).trans rfl, (blk_cell BK281.out 3).trans rfl, (blk_cell BK282.out 0).trans rfl, (blk_cell BK282.out 1).trans rfl, (blk_cell BK282.out 2).trans rfl, (blk_cell BK282.out 3).trans rfl⟩ (fun hHeld => ?_); refine with_tabW peloruslaw06_awake.tab3 peloruslaw06_awake.bits3 (fun HT_ HW_ => ?_)
    generalize w18.drew = w19 at BK281 BK282 HB hHeld ⊢
    refine take_ (i := 0) (N := some 5) (v := ?_) (a' := ?_) #[true, false, false, false, false, false, false, false, false, false, false, false, false, false, false, false, false, false, false, false, false, false, false, false, false, false] rfl rfl (take_ofW HT_.out HW_.out (by kernel_rfl)) (fun _ _ _ h => h) (Or.inl ⟨by rfl, ?_⟩) hHeld ?_ ?_
    rotate_left
    ·rintro w' ⟨s0, s1, s2, s3, s4, s5, s6, s7⟩
     go_simp
     with_reducible rfl
    rotate_left
    ·exact pt_
    refine take_ (i := 1) (N := some 6) (v := ?_) (a' := ?_) #[true, true, false, false, false, false, false, false, false, false, false, false, false, false, false, false, false, false, false, false, false, false, false, false, false, false] rfl rfl (take_ofW HT_.out HW_.out (by kernel_rfl)) (fun _ _ _ h => h) (Or.inl ⟨by rfl, ?_⟩) hHeld ?_ ?_
    rotate_left
    ·rintro w' ⟨s0, s1, s2, s3, s4, s5, s6, s7⟩
     go_simp
     with_reducible rfl
    rotate_left
    ·exact pt_
    refine take_ (i := 3) (N := some 8) (v := ?_) (a' := ?_) #[true, true, false, true, false, false, false, false, false, false, false, false, false, false, false, false, false, false, false, false, false, false, false, false, false, false] rfl rfl (take_ofW HT_.out HW_.out (by kernel_rfl)) (fun _ _ _ h => h) (Or.inl ⟨by rfl, ?_⟩) hHeld ?_ ?_
    rotate_left
    ·rintro w' ⟨s0, s1, s2, s3, s4, s5, s6, s7⟩
     go_simp
     with_reducible rfl
    rotate_left
    ·exact pt_
    refine one_ (i := 2) (N := some 7) #[true, true, true, true, false, false, false, false, false, false, false, false, false, false, false, false, false, false, false, false, false, false, false, false, false, false] rfl rfl (one_of HT_.out (by kernel_rfl)) (by decide) (fun K hK => ?_)
    refine gs_ Tryd.func10 #[.agg #[.int .i64 t277, .bool t278, .int .u64 t279, .int .i64 t280], .agg #[.int .i64 1, .bool false, .int .u64 9223372036854775808, .int .i64 (-133)], .bool true] ?_
    with_reducible refine (arith_Add.calls k t277 t278 t279 t280 1 false 9223372036854775808 (-133) true t283 t284 t285 t286 _ A2.out).mono ?_
    rintro e w20 ⟨rfl, hb⟩
    refine ⟨_, rfl, ?_⟩
    replace BK281 := kq_ BK281 hb
    replace BK282 := kq_ BK282 hb
    replace HB := bq_ HB hb
    (try clear hb)
    (try clear hb2)
    (try clear hk)
    (try clear hi)
    refine hK.out _ _ ⟨(blk_cell BK281.out 0).trans rfl, (blk_cell BK281.out 1).trans rfl, (blk_cell BK281.out 2).trans rfl, (blk_cell BK281.out 3).trans rfl, (blk_cell BK282.out 0).trans rfl, (blk_cell BK282.out 1).trans rfl, (blk_cell BK282.out 2).trans rfl, (blk_cell BK282.out 3).trans rfl⟩ (fun hHeld => ?_)
    clear hK K
    refine norm_ (a' := ?_) ?_ ?_
    rotate_left
    ·show Act.put _ (some 7) _ = _
     exact pt_
    refine one_ (i := 4) (N := some 9) #[true, true, true, true, true, false, false, false, false, false, false, false, false, false, false, false, false, false, false, false, false, false, false, false, false, false] rfl rfl (one_of HT_.out (by kernel_rfl)) (by decide) (fun K hK => ?_)
    refine gs_ Tryd.func13 #[.agg #[.int .i64 t277, .bool t278, .int .u64 t279, .int .i64 t280], .bool true] ?_
    with_reducible refine (num_Next.calls k t277 t278 t279 t280 true t287 t288 t289 t290 _ A3.out).mono ?_
    rintro e w21 ⟨rfl, hb⟩
    refine ⟨_, rfl, ?_⟩
    replace BK281 := kq_ BK281 hb
    replace BK282 := kq_ BK282 hb
    replace HB := bq_ HB hb
    (try clear hb)
    (try clear hb2)
    (try clear hk)
    (try clear hi)
    refine hK.out _ _ ⟨(blk_cell BK281.out 0).trans rfl, (blk_cell BK281.out 1).trans rfl, (blk_cell BK281.out 2).trans rfl, (blk_cell BK281.out 3).trans rfl, (blk_cell BK282.out 0).trans rfl, (blk_cell BK282.out 1).trans rfl, (blk_cell BK282.out 2).trans rfl, (blk_cell BK282.out 3).trans rfl⟩ (fun hHeld => ?_)
    clear hK K
    refine norm_ (a' := ?_) ?_ ?_
    rotate_left
    ·show Act.put _ (some 9) _ = _
     exact pt_
    refine pure_ (i := 5) (N := some 10) (v := ?_) (a' := ?_) #[true, true, true, true, true, true, false, false, false, false, false, false, false, false, false, false, false, false, false, false, false, false, false, false, false, false] rfl rfl (any_of HT_.out (by kernel_rfl)) (fun _ _ _ h => h) (Or.inl ⟨by rfl, ?_⟩) ?_ ?_
    rotate_left
    ·intro w'
     go_simp
     with_reducible rfl
    rotate_left
    ·exact pt_
    refine pure_ (i := 6) (N := some 11) (v := ?_) (a' := ?_) #[true, true, true, true, true, true, true, false, false, false, false, false, false, false, false, false, false, false, false, false, false, false, false, false, false, false] rfl rfl (any_of HT_.out (by kernel_rfl)) (fun _ _ _ h => h) (Or.inl ⟨by rfl, ?_⟩) ?_ ?_
    rotate_left
    ·intro w'
     go_simp
     with_reducible rfl
    rotate_left
    ·exact pt_
    refine take_ (i := 7) (N := some 12) (v := ?_) (a' := ?_) #[true, true, true, true, true, true, true, true, false, false, false, false, false, false, false, false, false, false, false, false, false, false, false, false, false, false] rfl rfl (take_ofW HT_.out HW_.out (by kernel_rfl)) (fun _ _ _ h => h) (Or.inl ⟨by rfl, ?_⟩) hHeld ?_ ?_
    rotate_left
    ·rintro w' ⟨s0, s1, s2, s3, s4, s5, s6, s7⟩
     go_simp
     with_reducible rfl
    rotate_left
    ·exact pt_
    refine take_ (i := 8) (N := some 13) (v := ?_) (a' := ?_) #[true, true, true, true, true, true, true, true, true, false, false, false, false, false, false, false, false, false, false, false, false, false, false, false, false, false] rfl rfl (take_ofW HT_.out HW_.out (by kernel_rfl)) (fun _ _ _ h => h) (Or.inl ⟨by rfl, ?_⟩) hHeld ?_ ?_
    rotate_left
    ·rintro w' ⟨s0, s1, s2, s3, s4, s5, s6, s7⟩
     go_simp
     with_reducible rfl
    rotate_left
    ·exact pt_
    refine take_ (i := 10) (N := some 15) (v := ?_) (a' := ?_) #[true, true, true, true, true, true, true, true, true, false, true, false, false, false, false, false, false, false, false, false, false, false, false, false, false, false] rfl rfl (take_ofW HT_.out HW_.out (by kernel_rfl)) (fun _ _ _ h => h) (Or.inl ⟨by rfl, ?_⟩) hHeld ?_ ?_
    rotate_left
    ·rintro w' ⟨s0, s1, s2, s3, s4, s5, s6, s7⟩
     go_simp
     with_reducible rfl
    rotate_left
    ·exact pt_
    refine one_ (i := 9) (N := some 14) #[true, true, true, true, true, true, true, true, true, true, true, false, false, false, false, false, false, false, false, false, false, false, false, false, false, false] rfl rfl (one_of HT_.out (by kernel_rfl)) (by decide) (fun K hK => ?_)
    refine gs_ Tryd.func10 #[.agg #[.int .i64 t277, .bool t278, .int .u64 t279, .int .i64 t280], .agg #[.int .i64 1, .bool false, .int .u64 9223372036854775808, .int .i64 (-133)], .bool false] ?_
    with_reducible refine (arith_Add.calls k t277 t278 t279 t280 1 false 9223372036854775808 (-133) false t291 t292 t293 t294 _ A5.out).mono ?_
    rintro e w22 ⟨rfl, hb⟩
    refine ⟨_, rfl, ?_⟩
    replace BK281 := kq_ BK281 hb
    replace BK282 := kq_ BK282 hb
    replace HB := bq_ HB hb
    (try clear hb)
    (try clear hb2)
    (try clear hk)
    (try clear hi)
    refine hK.out _ _ ⟨(blk_cell BK281.out 0).trans rfl, (blk_cell BK281.out 1).trans rfl, (blk_cell BK281.out 2).trans rfl, (blk_cell BK281.out 3).trans rfl, (blk_cell BK282.out 0).trans rfl, (blk_cell BK282.out 1).trans rfl, (blk_cell BK282.out 2).trans rfl, (blk_cell BK282.out 3).trans rfl⟩ (fun hHeld => ?_)
    clear hK K
    refine norm_ (a' := ?_) ?_ ?_
    rotate_left
    ·show Act.put _ (some 14) _ = _
     exact pt_
    refine pure_ (i := 11) (N := some 16) (v := ?_) (a' := ?_) #[true, true, true, true, true, true, true, true, true, true, true, true, false, false, false, false, false, false, false, false, false, false, false, false, false, false] rfl rfl (any_of HT_.out (by kernel_rfl)) (fun _ _ _ h => h) (Or.inl ⟨by rfl, ?_⟩) ?_ ?_
    rotate_left
    ·intro w'
     go_simp
     with_reducible rfl
    rotate_left
    ·exact pt_
    refine pure_ (i := 12) (N := some 17) (v := ?_) (a' := ?_) #[true, true, true, true, true, true, true, true, true, true, true, true, true, false, false, false, false, false, false, false, false, false, false, false, false, false] rfl rfl (any_of HT_.out (by kernel_rfl)) (fun _ _ _ h => h) (Or.inl ⟨by rfl, ?_⟩) ?_ ?_
    rotate_left
    ·intro w'
     go_simp
     with_reducible rfl
    rotate_left
    ·exact pt_
    refine pure_ (i := 13) (N := some 18) (v := ?_) (a' := ?_) #[true, true, true, true, true, true, true, true, true, true, true, true, true, true, false, false, false, false, false, false, false, false, false, false, false, false] rfl rfl (any_of HT_.out (by kernel_rfl)) (fun _ _ _ h => h) (Or.inl ⟨by rfl, ?_⟩) ?_ ?_
    rotate_left
    ·intro w'
     go_simp
     with_reducible rfl
    rotate_left
    ·exact pt_
    refine pure_ (i := 14) (N := some 19) (v := ?_) (a' := ?_) #[true, true, true, true, true, true, true, true, true, true, true, true, true, true, true, false, false, false, false, false, false, false, false, false, false, false] rfl rfl (any_of HT_.out (by kernel_rfl)) (fun _ _ _ h => h) (Or.inl ⟨by rfl, ?_⟩) ?_ ?_
    rotate_left
    ·intro w'
     go_simp
     with_reducible rfl
    rotate_left
    ·exact pt_
    refine take_ (i := 15) (N := some 20) (v := ?_) (a' := ?_) #[true, true, true, true, true, true, true, true, true, true, true, true, true, true, true, true, false, false, false, false, false, false, false, false, false, false] rfl rfl (take_ofW HT_.out HW_.out (by kernel_rfl)) (fun _ _ _ h => h) (Or.inl ⟨by rfl, ?_⟩) hHeld ?_ ?_
    rotate_left
    ·rintro w' ⟨s0, s1, s2, s3, s4, s5, s6, s7⟩
     go_simp
     with_reducible rfl
    rotate_left
    ·exact pt_
    refine pure_ (i := 16) (N := some 21) (v := ?_) (a' := ?_) #[true, true, true, true, true, true, true, true, true, true, true, true, true, true, true, true, true, false, false, false, false, false, false, false, false, false] rfl rfl (any_of HT_.out (by kernel_rfl)) (fun _ _ _ h => h) (Or.inl ⟨by rfl, ?_⟩) ?_ ?_
    rotate_left
    ·intro w'
     go_simp
     with_reducible rfl
    rotate_left
    ·exact pt_
    refine pure_ (i := 17) (N := some 22) (v := ?_) (a' := ?_) #[true, true, true, true, true, true, true, true, true, true, true, true, true, true, true, true, true, true, false, false, false, false, false, false, false, false] rfl rfl (any_of HT_.out (by kernel_rfl)) (fun _ _ _ h => h) (Or.inl ⟨by rfl, ?_⟩) ?_ ?_
    rotate_left
    ·intro w'
     go_simp
     with_reducible rfl
    rotate_left
    ·exact pt_
    refine pure_ (i := 18) (N := some 23) (v := ?_) (a' := ?_) #[true, true, true, true, true, true, true, true, true, true, true, true, true, true, true, true, true, true, true, false, false, false, false, false, false, false] rfl rfl (any_of HT_.out (by kernel_rfl)) (fun _ _ _ h => h) (Or.inl ⟨by rfl, ?_⟩) ?_ ?_
    rotate_left
    ·intro w'
     go_simp
     with_reducible rfl
    rotate_left
    ·exact pt_
    refine one_ (i := 19) (N := some 24) #[true, true, true, true, true, true, true, true, true, true, true, true, true, true, true, true, true, true, true, true, false, false, false, false, false, false] rfl rfl (one_of HT_.out (by kernel_rfl)) (by decide) (fun K hK => ?_)
    refine gs_ Tryd.func14 #[.bool false] ?_
    with_reducible refine (num_Infinite.calls false t295 t296 t297 t298 _ A8.out).mono ?_
    rintro e w23 ⟨rfl, hb⟩
    refine ⟨_, rfl, ?_⟩
    replace BK281 := kq_ BK281 hb
    replace BK282 := kq_ BK282 hb
    replace HB := bq_ HB hb
    (try clear hb)
    (try clear hb2)
    (try clear hk)
    (try clear hi)
    refine hK.out _ _ ⟨(blk_cell BK281.out 0).trans rfl, (blk_cell BK281.out 1).trans rfl, (blk_cell BK281.out 2).trans rfl, (blk_cell BK281.out 3).trans rfl, (blk_cell BK282.out 0).trans rfl, (blk_cell BK282.out 1).trans rfl, (blk_cell BK282.out 2).trans rfl, (blk_cell BK282.out 3).trans rfl⟩ (fun hHeld => ?_)
    clear hK K
    refine norm_ (a' := ?_) ?_ ?_
    rotate_left
    ·show Act.put _ (some 24) _ = _
     exact pt_
    refine one_ (i := 20) (N := some 25) #[true, true, true, true, true, true, true, true, true, true, true, true, true, true, true, true, true, true, true, true, true, false, false, false, false, false] rfl rfl (one_of HT_.out (by kernel_rfl)) (by decide) (fun K hK => ?_)
    refine gs_ Tryd.func12 #[.int .i64 (-2)] ?_
    with_reducible refine (num_Of.calls k (-2) t299 t300 t301 t302 _ A9.out).mono ?_
    rintro e w24 ⟨rfl, hb⟩
    refine ⟨_, rfl, ?_⟩
    replace BK281 := kq_ BK281 hb
    replace BK282 := kq_ BK282 hb
    replace HB := bq_ HB hb
    (try clear hb)
    (try clear hb2)
    (try clear hk)
    (try clear hi)
    refine hK.out _ _ ⟨(blk_cell BK281.out 0).trans rfl, (blk_cell BK281.out 1).trans rfl, (blk_cell BK281.out 2).trans rfl, (blk_cell BK281.out 3).trans rfl, (blk_cell BK282.out 0).trans rfl, (blk_cell BK282.out 1).trans rfl, (blk_cell BK282.out 2).trans rfl, (blk_cell BK282.out 3).trans rfl⟩ (fun hHeld => ?_)
    clear hK K
    refine norm_ (a' := ?_) ?_ ?_
    rotate_left
    ·show Act.put _ (some 25) _ = _
     exact pt_
    refine one_ (i := 21) (N := some 26) #[true, true, true, true, true, true, true, true, true, true, true, true, true, true, true, true, true, true, true, true, true, true, false, false, false, false] rfl rfl (one_of HT_.out (by kernel_rfl)) (by decide) (fun K hK => ?_)
    refine gs_ Tryd.func11 #[.agg #[.int .i64 t295, .bool t296, .int .u64 t297, .int .i64 t298], .agg #[.int .i64 t299, .bool t300, .int .u64 t301, .int .i64 t302], .bool true] ?_
    with_reducible refine (arith_Mul.calls k t295 t296 t297 t298 t299 t300 t301 t302 true t303 t304 t305 t306 _ A10.out).mono ?_
    rintro e w25 ⟨rfl, hb⟩
    refine ⟨_, rfl, ?_⟩
    replace BK281 := kq_ BK281 hb
    replace BK282 := kq_ BK282 hb
    replace HB := bq_ HB hb
    (try clear hb)
    (try clear hb2)
    (try clear hk)
    (try clear hi)
    refine hK.out _ _ ⟨(blk_cell BK281.out 0).trans rfl, (blk_cell BK281.out 1).trans rfl, (blk_cell BK281.out 2).trans rfl, (blk_cell BK281.out 3).trans rfl, (blk_cell BK282.out 0).trans rfl, (blk_cell BK282.out 1).trans rfl, (blk_cell BK282.out 2).trans rfl, (blk_cell BK282.out 3).trans rfl⟩ (fun hHeld => ?_)
    clear hK K
    refine norm_ (a' := ?_) ?_ ?_
    rotate_left
    ·show Act.put _ (some 26) _ = _
     exact pt_
    refine one_ (i := 22) (N := some 27) #[true, true, true, true, true, true, true, true, true, true, true, true, true, true, true, true, true, true, true, true, true, true, true, false, false, false] rfl rfl (one_of HT_.out (by kernel_rfl)) (by decide) (fun K hK => ?_)
    refine gs_ Tryd.func14 #[.bool true] ?_
    with_reducible refine (num_Infinite.calls true t307 t308 t309 t310 _ A11.out).mono ?_
    rintro e w26 ⟨rfl, hb⟩
    refine ⟨_, rfl, ?_⟩
    replace BK281 := kq_ BK281 hb
    replace BK282 := kq_ BK282 hb
    replace HB := bq_ HB hb
    (try clear hb)
    (try clear hb2)
    (try clear hk)
    (try clear hi)
    refine hK.out _ _ ⟨(blk_cell BK281.out 0).trans rfl, (blk_cell BK281.out 1).trans rfl, (blk_cell BK281.out 2).trans rfl, (blk_cell BK281.out 3).trans rfl, (blk_cell BK282.out 0).trans rfl, (blk_cell BK282.out 1).trans rfl, (blk_cell BK282.out 2).trans rfl, (blk_cell BK282.out 3).trans rfl⟩ (fun hHeld => ?_)
    clear hK K
    refine norm_ (a' := ?_) ?_ ?_
    rotate_left
    ·show Act.put _ (some 27) _ = _
     exact pt_
    refine pure_ (i := 23) (N := some 28) (v := ?_) (a' := ?_) #[true, true, true, true, true, true, true, true, true, true, true, true, true, true, true, true, true, true, true, true, true, true, true, true, false, false] rfl rfl (any_of HT_.out (by kernel_rfl)) (fun _ _ _ h => h) (Or.inl ⟨by rfl, ?_⟩) ?_ ?_
    rotate_left
    ·intro w'
     go_simp
     with_reducible rfl
    rotate_left
    ·exact pt_
    refine pure_ (i := 24) (N := some 29) (v := ?_) (a' := ?_) #[true, true, true, true, true, true, true, true, true, true, true, true, true, true, true, true, true, true, true, true, true, true, true, true, true, false] rfl rfl (any_of HT_.out (by kernel_rfl)) (fun _ _ _ h => h) (Or.inl ⟨by rfl, ?_⟩) ?_ ?_
    rotate_left
    ·intro w'
     go_simp
     with_reducible rfl
    rotate_left
    ·exact pt_
    refine pure_ (i := 25) (N := some 0) (v := ?_) (a' := ?_) #[true, true, true, true, true, true, true, true, true, true, true, true, true, true, true, true, true, true, true, true, true, true, true, true, true, true] rfl rfl (any_of HT_.out (by kernel_rfl)) (fun _ _ _ h => h) (Or.inl ⟨by rfl, ?_⟩) ?_ ?_
    rotate_left
    ·intro w'
     go_simp
     with_reducible rfl
    rotate_left
    ·exact pt_
    refine done_ (done_of HT_.out (by kernel_rfl)) ?_
    try go_wp2
    go_ret
    exact ⟨rf_, bw_ HB.out⟩
   ·rw [if_neg c7] at H
    have c7b0 : (t277 == 1) = false := beq_eq_false_iff_ne.mpr c7
    have c7b1 : (t277 != 1) = true := bne_iff_ne.mpr c7
    exact absurd ((Option.some.inj H).trans HRT_.out) (by simp)
  ·rw [if_neg c6] at H
   have c6b0 : (t291 == t277 && (t292 == t278 && (t293 == t279 && (t294 == t280)))) = false := by simpa using c6
   (try (have c6b1 : decide (t291 = t277 && (t292 == t278 && (t293 == t279 && (t294 == t280)))) = false := by simpa using c6))
   (try (have c6b2 : (t291 == t277 && (t292 == t278 && (t293 == t279 && (t294 == t280)))) = false := by simpa using c6))
   (try (have c6b3 : ¬ (t291 = t277 && (t292 == t278 && (t293 == t279 && (t294 == t280)))) := by simpa using c6))
   clear c6
   exact absurd ((Option.some.inj H).trans HRT_.out) (by simp)
 ·rw [if_neg c4] at H
  have c4b0 : (t283 == t287 && (t284 == t288 && (t285 == t289 && (t286 == t290)))) = false := by simpa using c4
  (try (have c4b1 : decide (t283 = t287 && (t284 == t288 && (t285 == t289 && (t286 == t290)))) = false := by simpa using c4))
  (try (have c4b2 : (t283 == t287 && (t284 == t288 && (t285 == t289 && (t286 == t290)))) = false := by simpa using c4))
  (try (have c4b3 : ¬ (t283 = t287 && (t284 == t288 && (t285 == t289 && (t286 == t290)))) := by simpa using c4))
  clear c4
  exact absurd ((Option.some.inj H).trans HRT_.out) (by simp)

end Go.Proofs.YthlhogcnfaiphaaDoor.PA
