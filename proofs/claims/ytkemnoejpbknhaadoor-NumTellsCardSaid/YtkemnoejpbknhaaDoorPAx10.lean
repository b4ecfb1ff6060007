-- Laid by this work's own program; Lean checks it.
import Derived.Test.YtkemnoejpbknhaaDoorPAx0
import Derived.Test.YtkemnoejpbknhaaDoorPAx2
import Derived.Test.YtkemnoejpbknhaaDoorPAx8
import Derived.Test.YtkemnoejpbknhaaDoorPAx9
namespace Go.Proofs.YtkemnoejpbknhaaDoor.PA
open Go.RowKit Go.Proofs.YtkemnoejpbknhaaDoorW.PrintWords Go.Proofs.YtkemnoejpbknhaaDoorW.PrintLast Go.Proofs.YtkemnoejpbknhaaDoorW.PrintMore
attribute [local go_sem] max2_int min2_int max_two min_two max_three min_three max_four min_four   -- for this text's walks alone
set_option linter.unusedVariables false
set_option linter.unusedSimpArgs false

attribute [local go_sem ↓ high] isSome_set_
/-! ### num_Cmp: function 17 -/
set_option maxHeartbeats 8000000 in
set_option maxRecDepth 100000 in
theorem num_Cmp.calls (a0_0 : Int) (a0_1 : Bool) (a0_2 : Int) (a0_3 : Int) (a1_0 : Int) (a1_1 : Bool) (a1_2 : Int) (a1_3 : Int) (r : Int) (w : World) (h : num_Cmp.f a0_0 a0_1 a0_2 a0_3 a1_0 a1_1 a1_2 a1_3 = some r) :
  Calls Tryd.prog 17 #[.agg #[.int .i64 a0_0, .bool a0_1, .int .u64 a0_2, .int .i64 a0_3], .agg #[.int .i64 a1_0, .bool a1_1, .int .u64 a1_2, .int .i64 a1_3]] w fun e w' => e = .returned (.int .i64 r) ∧ Below w.heap.size w w' := by
 have hu30 := Tryd.underlying30
 have HB := Aside0.mk (Below.refl w.heap.size w)
 have H : ((num_fair.f a0_0 a0_1 a0_2 a0_3).bind fun bt507 => ((num_fair.f a1_0 a1_1 a1_2 a1_3).bind fun bt511 => ((num_Sign.f bt507.1 bt507.2.1 bt507.2.2.1 bt507.2.2.2).bind fun t515 => ((num_Sign.f bt511.1 bt511.2.1 bt511.2.2.1 bt511.2.2.2).bind fun t516 => (if t515 < t516 then (some (-1)) else (if t515 > t516 then (some 1) else ((num_farther.f bt507.1 bt507.2.1 bt507.2.2.1 bt507.2.2.2 bt511.1 bt511.2.1 bt511.2.2.1 bt511.2.2.2).bind fun t517 => (if t517 = true then (some t515) else ((num_farther.f bt511.1 bt511.2.1 bt511.2.2.1 bt511.2.2.2 bt507.1 bt507.2.1 bt507.2.2.1 bt507.2.2.2).bind fun t518 => (if t518 = true then (some (wrap64 (-t515))) else (some 0))))))))))) = some r := h
 clear h
 replace H := Option.bind_eq_some_iff.mp H
 obtain ⟨⟨t507, t508, t509, t510⟩, A30, H⟩ := H
 (try dsimp only at H)
 have A3 := Aside0.mk A30
 clear A30
 replace H := Option.bind_eq_some_iff.mp H
 obtain ⟨⟨t511, t512, t513, t514⟩, A40, H⟩ := H
 (try dsimp only at H)
 have A4 := Aside0.mk A40
 clear A40
 replace H := Option.bind_eq_some_iff.mp H
 obtain ⟨t515, A50, H⟩ := H
 (try dsimp only at H)
 have A5 := Aside0.mk A50
 clear A50
 replace H := Option.bind_eq_some_iff.mp H
 obtain ⟨t516, A60, H⟩ := H
 (try dsimp only at H)
 have A6 := Aside0.mk A60
 clear A60
 by_cases c7 : t515 < t516
 ·rw [if_pos c7] at H
  have c7b0 : decide (t515 < t516) = true := decide_eq_true c7
  clear c7
  obtain rfl := Option.some.inj H
  go_enter Tryd.func17, Tryd.ntmps17
  try go_wp2_with (first | ((with_reducible refine gate_dst (N := 2) rfl ?_); refine bx_ 2 #[.int .i64 a0_0, .bool a0_1, .int .u64 a0_2, .int .i64 a0_3] 30 ?_; intro gb505 hg w8 hbox hb; have BK505 := Aside0.mk (hbox); have GW505 := ge_ hg HB; have GE505 := ge_ hg HB; replace HB := bq_ HB hb; clear hb hbox hg) | ((with_reducible refine gate_dst (N := 3) rfl ?_); refine bx_ 3 #[.int .i64 a1_0, .bool a1_1, .int .u64 a1_2, .int .i64 a1_3] 30 ?_; intro gb506 hg w9 hbox hb; have BK506 := Aside0.mk (hbox); have GW506 := ge_ hg HB; have GE506 := ge_ hg HB; have NB505_506 := nb_ hg BK505; have NB506_505 := nc_ hg BK505; replace BK505 := kq_ BK505 hb; replace HB := bq_ HB hb; clear hb hbox hg))
  replace BK505 := Aside0.mk (blk_drew BK505.out)
  replace BK506 := Aside0.mk (blk_drew BK506.out)
  replace HB := Aside0.mk (below_drew1 HB.out)
  refine start_ (n := 6) (S := fun w' => w'.cell? ⟨gb505, 0, none⟩ = some (.int .i64 a0_0) ∧ w'.cell? ⟨gb505, 1, none⟩ = some (.bool a0_1) ∧ w'.cell? ⟨gb505, 2, none⟩ = some (.int .u64 a0_2) ∧ w'.cell? ⟨gb505, 3, none⟩ = some (.int .i64 a0_3) ∧ w'.cell? ⟨gb506, 0, none⟩ = some (.int .i64 a1_0) ∧ w'.cell? ⟨gb506, 1, none⟩ = some (.bool a1_1) ∧ w'.cell? ⟨gb506, 2, none⟩ = some (.int .u64 a1_2) ∧ w'.cell? ⟨gb506, 3, none⟩ = some (.int .i64 a1_3)) (ds := [4, 5]) #[false, false, false, false, false, false] (by kernel_rfl) rfl rfl ⟨(blk_cell BK505.out 0).trans rfl, (blk_cell BK505.out 1).trans rfl, (blk_cell BK505.out 2).trans rfl, (blk_cell BK505.out 3).trans rfl, (blk_cell BK506.out 0).trans rfl, (blk_cell BK506.out 1).trans rfl, (blk_cell BK506.out 2).trans rfl, (blk_cell BK506.out 3).trans rfl⟩ (fun hHeld => ?_)
  generalize w9.drew = w10 at BK505 BK506 HB hHeld ⊢
  refine take_ (i := 0) (N := some 7) (v := ?_) (a' := ?_) #[true, false, false, false, false, false] rfl rfl (by kernel_rfl) (fun _ _ _ h => h) (Or.inl ⟨by rfl, ?_⟩) hHeld ?_ ?_
  rotate_left
  ·rintro w' ⟨s0, s1, s2, s3, s4, s5, s6, s7⟩
   go_simp
   with_reducible rfl
  rotate_left
  ·exact pt_
  refine take_ (i := 2) (N := some 9) (v := ?_) (a' := ?_) #[true, false, true, false, false, false] rfl rfl (by kernel_rfl) (fun _ _ _ h => h) (Or.inl ⟨by rfl, ?_⟩) hHeld ?_ ?_
  rotate_left
  ·rintro w' ⟨s0, s1, s2, s3, s4, s5, s6, s7⟩
   go_simp
   with_reducible rfl
  rotate_left
  ·exact pt_
  refine one_ (i := 1) (N := some 8) #[true, true, true, false, false, false] rfl rfl (by kernel_rfl) (by decide) (fun K hK => ?_)
  refine gs_ Tryd.func52 #[.agg #[.int .i64 a0_0, .bool a0_1, .int .u64 a0_2, .int .i64 a0_3]] ?_
  with_reducible refine (num_fair.calls a0_0 a0_1 a0_2 a0_3 t507 t508 t509 t510 _ A3.out).mono ?_
  rintro e w11 ⟨rfl, hb⟩
  refine ⟨_, rfl, ?_⟩
  replace BK505 := kq_ BK505 hb
  replace BK506 := kq_ BK506 hb
  replace HB := bq_ HB hb
  (try clear hb)
  (try clear hb2)
  (try clear hk)
  (try clear hi)
  refine hK.out _ _ ⟨(blk_cell BK505.out 0).trans rfl, (blk_cell BK505.out 1).trans rfl, (blk_cell BK505.out 2).trans rfl, (blk_cell BK505.out 3).trans rfl, (blk_cell BK506.out 0).trans rfl, (blk_cell BK506.out 1).trans rfl, (blk_cell BK506.out 2).trans rfl, (blk_cell BK506.out 3).trans rfl⟩ (fun hHeld => ?_)
  clear hK K
  refine norm_ (a' := ?_) ?_ ?_
  rotate_left
  ·show Act.put _ (some 8) _ = _
   exact pt_
  refine one_ (i := 3) (N := some 10) #[true, true, true, true, false, false] rfl rfl (by kernel_rfl) (by decide) (fun K hK => ?_)
  refine gs_ Tryd.func52 #[.agg #[.int .i64 a1_0, .bool a1_1, .int .u64 a1_2, .int .i64 a1_3]] ?_
  with_reducible refine (num_fair.calls a1_0 a1_1 a1_2 a1_3 t511 t512 t513 t514 _ A4.out).mono ?_
  rintro e w12 ⟨rfl, hb⟩
  refine ⟨_, rfl, ?_⟩
  replace BK505 := kq_ BK505 hb
  replace BK506 := kq_ BK506 hb
  replace HB := bq_ HB hb
  (try clear hb)
  (try clear hb2)
  (try clear hk)
  (try clear hi)
  refine hK.out _ _ ⟨(blk_cell BK505.out 0).trans rfl, (blk_cell BK505.out 1).trans rfl, (blk_cell BK505.out 2).trans rfl, (blk_cell BK505.out 3).trans rfl, (blk_cell BK506.out 0).trans rfl, (blk_cell BK506.out 1).trans rfl, (blk_cell BK506.out 2).trans rfl, (blk_cell BK506.out 3).trans rfl⟩ (fun hHeld => ?_)
  clear hK K
  refine norm_ (a' := ?_) ?_ ?_
  rotate_left
  ·show Act.put _ (some 10) _ = _
   exact pt_
  refine last_ (i := 4) (N := none) #[true, true, true, true, true, false] rfl rfl (by kernel_rfl) (by decide) (fun K hK => ?_)
  have hs13 : w12.cell? ⟨gb505, 0, none⟩ = some (.int .i64 a0_0) := (blk_cell BK505.out 0).trans rfl
  have hfs13 := fz_ BK505 0
  have hns13_1 := NB506_505.out
  have hms13_1 := NB505_506.out
  have hs14 : w12.cell? ⟨gb505, 1, none⟩ = some (.bool a0_1) := (blk_cell BK505.out 1).trans rfl
  have hfs14 := fz_ BK505 1
  have hns14_1 := NB506_505.out
  have hms14_1 := NB505_506.out
  have hs15 : w12.cell? ⟨gb505, 2, none⟩ = some (.int .u64 a0_2) := (blk_cell BK505.out 2).trans rfl
  have hfs15 := fz_ BK505 2
  have hns15_1 := NB506_505.out
  have hms15_1 := NB505_506.out
  have hs16 : w12.cell? ⟨gb505, 3, none⟩ = some (.int .i64 a0_3) := (blk_cell BK505.out 3).trans rfl
  have hfs16 := fz_ BK505 3
  have hns16_1 := NB506_505.out
  have hms16_1 := NB505_506.out
  refine skip_ (w1 := ?_) (by rfl) rfl ?_ ?_
  rotate_left
  ·go_simp
   rfl
  refine hK.out _ _ ?_
  clear hK K
  refine last_ (i := 5) (N := none) #[true, true, true, true, true, true] rfl rfl (by kernel_rfl) (by decide) (fun K hK => ?_)
  have hs17 : w12.cell? ⟨gb506, 0, none⟩ = some (.int .i64 a1_0) := (blk_cell BK506.out 0).trans rfl
  have hfs17 := fz_ BK506 0
  have hns17_0 := NB505_506.out
  have hms17_0 := NB506_505.out
  have hs18 : w12.cell? ⟨gb506, 1, none⟩ = some (.bool a1_1) := (blk_cell BK506.out 1).trans rfl
  have hfs18 := fz_ BK506 1
  have hns18_0 := NB505_506.out
  have hms18_0 := NB506_505.out
  have hs19 : w12.cell? ⟨gb506, 2, none⟩ = some (.int .u64 a1_2) := (blk_cell BK506.out 2).trans rfl
  have hfs19 := fz_ BK506 2
  have hns19_0 := NB505_506.out
  have hms19_0 := NB506_505.out
  have hs20 : w12.cell? ⟨gb506, 3, none⟩ = some (.int .i64 a1_3) := (blk_cell BK506.out 3).trans rfl
  have hfs20 := fz_ BK506 3
  have hns20_0 := NB505_506.out
  have hms20_0 := NB506_505.out
  refine skip_ (w1 := ?_) (by rfl) rfl ?_ ?_
  rotate_left
  ·go_simp
   rfl
  refine hK.out _ _ ?_
  clear hK K
  refine done_ (by kernel_rfl) ?_
  try go_wp2
  have n0_ : Aside0 (((((((((w12.setCell ⟨gb505, 0, none⟩ (.int .i64 t507)).setCell ⟨gb505, 1, none⟩ (.bool t508)).setCell ⟨gb505, 2, none⟩ (.int .u64 t509)).setCell ⟨gb505, 3, none⟩ (.int .i64 t510)).setCell ⟨gb506, 0, none⟩ (.int .i64 t511)).setCell ⟨gb506, 1, none⟩ (.bool t512)).setCell ⟨gb506, 2, none⟩ (.int .u64 t513)).setCell ⟨gb506, 3, none⟩ (.int .i64 t514)).heap[gb505]? = some (.cells #[.int .i64 t507, .bool t508, .int .u64 t509, .int .i64 t510] 30 (0, 0))) := ⟨by refine kb_ ?_; refine bf_ NB505_506 ?_; refine bf_ NB505_506 ?_; refine bf_ NB505_506 ?_; refine bf_ NB505_506 ?_; refine bp_ #[.int .i64 t507, .bool t508, .int .u64 t509, .int .i64 a0_3] 3 ?_; refine bp_ #[.int .i64 t507, .bool t508, .int .u64 a0_2, .int .i64 a0_3] 2 ?_; refine bp_ #[.int .i64 t507, .bool a0_1, .int .u64 a0_2, .int .i64 a0_3] 1 ?_; refine bp_ #[.int .i64 a0_0, .bool a0_1, .int .u64 a0_2, .int .i64 a0_3] 0 ?_; exact BK505.out⟩
  have n1_ : Aside0 (((((((((w12.setCell ⟨gb505, 0, none⟩ (.int .i64 t507)).setCell ⟨gb505, 1, none⟩ (.bool t508)).setCell ⟨gb505, 2, none⟩ (.int .u64 t509)).setCell ⟨gb505, 3, none⟩ (.int .i64 t510)).setCell ⟨gb506, 0, none⟩ (.int .i64 t511)).setCell ⟨gb506, 1, none⟩ (.bool t512)).setCell ⟨gb506, 2, none⟩ (.int .u64 t513)).setCell ⟨gb506, 3, none⟩ (.int .i64 t514)).heap[gb506]? = some (.cells #[.int .i64 t511, .bool t512, .int .u64 t513, .int .i64 t514] 30 (0, 0))) := ⟨by refine kb_ ?_; refine bp_ #[.int .i64 t511, .bool t512, .int .u64 t513, .int .i64 a1_3] 3 ?_; refine bp_ #[.int .i64 t511, .bool t512, .int .u64 a1_2, .int .i64 a1_3] 2 ?_; refine bp_ #[.int .i64 t511, .bool a1_1, .int .u64 a1_2, .int .i64 a1_3] 1 ?_; refine bp_ #[.int .i64 a1_0, .bool a1_1, .int .u64 a1_2, .int .i64 a1_3] 0 ?_; refine bf_ NB506_505 ?_; refine bf_ NB506_505 ?_; refine bf_ NB506_505 ?_; refine bf_ NB506_505 ?_; exact BK506.out⟩
  have n2_ : Aside0 (Below w.heap.size w ((((((((w12.setCell ⟨gb505, 0, none⟩ (.int .i64 t507)).setCell ⟨gb505, 1, none⟩ (.bool t508)).setCell ⟨gb505, 2, none⟩ (.int .u64 t509)).setCell ⟨gb505, 3, none⟩ (.int .i64 t510)).setCell ⟨gb506, 0, none⟩ (.int .i64 t511)).setCell ⟨gb506, 1, none⟩ (.bool t512)).setCell ⟨gb506, 2, none⟩ (.int .u64 t513)).setCell ⟨gb506, 3, none⟩ (.int .i64 t514))) := ⟨bw_ HB.out⟩
  (try clear BK505)
  (try clear BK506)
  (try clear HB)
  generalize ((((((((w12.setCell ⟨gb505, 0, none⟩ (.int .i64 t507)).setCell ⟨gb505, 1, none⟩ (.bool t508)).setCell ⟨gb505, 2, none⟩ (.int .u64 t509)).setCell ⟨gb505, 3, none⟩ (.int .i64 t510)).setCell ⟨gb506, 0, none⟩ (.int .i64 t511)).setCell ⟨gb506, 1, none⟩ (.bool t512)).setCell ⟨gb506, 2, none⟩ (.int .u64 t513)).setCell ⟨gb506, 3, none⟩ (.int .i64 t514)) = w21 at n0_ n1_ n2_ ⊢
  have BK505 := n0_
  have BK506 := n1_
  have HB := n2_
  clear n0_ n1_ n2_
  replace BK505 := Aside0.mk (blk_drew BK505.out)
  replace BK506 := Aside0.mk (blk_drew BK506.out)
  replace HB := Aside0.mk (below_drew1 HB.out)
  refine start_ (n := 6) (S := fun w' => w'.cell? ⟨gb505, 0, none⟩ = some (.int .i64 t507) ∧ w'.cell? ⟨gb505, 1, none⟩ = some (.bool t508) ∧ w'.cell? ⟨gb505, 2, none⟩ = some (.int .u64 t509) ∧ w'.cell? ⟨gb505, 3, none⟩ = some (.int .i64 t510) ∧ w'.cell? ⟨gb506, 0, none⟩ = some (.int .i64 t511) ∧ w'.cell? ⟨gb506, 1, none⟩ = some (.bool t512) ∧ w'.cell? ⟨gb506, 2, none⟩ = some (.int .u64 t513) ∧ w'.cell? ⟨gb506, 3, none⟩ = some (.int .i64 t514)) (ds := []) #[false, false, false, false, false, false] (by kernel_rfl) rfl rfl ⟨(blk_cell BK505.out 0).trans rfl, (blk_cell BK505.out 1).trans rfl, (blk_cell BK505.out 2).trans rfl, (blk_cell BK505.out 3).trans rfl, (blk_cell BK506.out 0).trans rfl, (blk_cell BK506.out 1).trans rfl, (blk_cell BK506.out 2).trans rfl, (blk_cell BK506.out 3).trans rfl⟩ (fun hHeld => ?_)
  generalize w21.drew = w22 at BK505 BK506 HB hHeld ⊢
  refine take_ (i := 0) (N := some 11) (v := ?_) (a' := ?_) #[true, false, false, false, false, false] rfl rfl (by kernel_rfl) (fun _ _ _ h => h) (Or.inl ⟨by rfl, ?_⟩) hHeld ?_ ?_
  rotate_left
  ·rintro w' ⟨s0, s1, s2, s3, s4, s5, s6, s7⟩
   go_simp
   with_reducible rfl
  rotate_left
  ·exact pt_
  refine take_ (i := 2) (N := some 13) (v := ?_) (a' := ?_) #[true, false, true, false, false, false] rfl rfl (by kernel_rfl) (fun _ _ _ h => h) (Or.inl ⟨by rfl, ?_⟩) hHeld ?_ ?_
  rotate_left
  ·rintro w' ⟨s0, s1, s2, s3, s4, s5, s6, s7⟩
   go_simp
   with_reducible rfl
  rotate_left
  ·exact pt_
  refine one_ (i := 1) (N := some 12) #[true, true, true, false, false, false] rfl rfl (by kernel_rfl) (by decide) (fun K hK => ?_)
  refine gs_ Tryd.func18 #[.agg #[.int .i64 t507, .bool t508, .int .u64 t509, .int .i64 t510]] ?_
  with_reducible refine (num_Sign.calls t507 t508 t509 t510 t515 _ A5.out).mono ?_
  rintro e w23 ⟨rfl, hb⟩
  refine ⟨_, rfl, ?_⟩
  replace BK505 := kq_ BK505 hb
  replace BK506 := kq_ BK506 hb
  replace HB := bq_ HB hb
  (try clear hb)
  (try clear hb2)
  (try clear hk)
  (try clear hi)
  refine hK.out _ _ ⟨(blk_cell BK505.out 0).trans rfl, (blk_cell BK505.out 1).trans rfl, (blk_cell BK505.out 2).trans rfl, (blk_cell BK505.out 3).trans rfl, (blk_cell BK506.out 0).trans rfl, (blk_cell BK506.out 1).trans rfl, (blk_cell BK506.out 2).trans rfl, (blk_cell BK506.out 3).trans rfl⟩ (fun hHeld => ?_)
  clear hK K
  refine norm_ (a' := ?_) ?_ ?_
  rotate_left
  ·show Act.put _ (some 12) _ = _
   exact pt_
  refine one_ (i := 3) (N := some 14) #[true, true, true, true, false, false] rfl rfl (by kernel_rfl) (by decide) (fun K hK => ?_)
  refine gs_ Tryd.func18 #[.agg #[.int .i64 t511, .bool t512, .int .u64 t513, .int .i64 t514]] ?_
  with_reducible refine (num_Sign.calls t511 t512 t513 t514 t516 _ A6.out).mono ?_
  rintro e w24 ⟨rfl, hb⟩
  refine ⟨_, rfl, ?_⟩
  replace BK505 := kq_ BK505 hb
  replace BK506 := kq_ BK506 hb
  replace HB := bq_ HB hb
  (try clear hb)
  (try clear hb2)
  (try clear hk)
  (try clear hi)
  refine hK.out _ _ ⟨(blk_cell BK505.out 0).trans rfl, (blk_cell BK505.out 1).trans rfl, (blk_cell BK505.out 2).trans rfl, (blk_cell BK505.out 3).trans rfl, (blk_cell BK506.out 0).trans rfl, (blk_cell BK506.out 1).trans rfl, (blk_cell BK506.out 2).trans rfl, (blk_cell BK506.out 3).trans rfl⟩ (fun hHeld => ?_)
  clear hK K
  refine norm_ (a' := ?_) ?_ ?_
  rotate_left
  ·show Act.put _ (some 14) _ = _
   exact pt_
  refine pure_ (i := 4) (N := some 5) (v := ?_) (a' := ?_) #[true, true, true, true, true, false] rfl rfl (by kernel_rfl) (fun _ _ _ h => h) (Or.inl ⟨by rfl, ?_⟩) ?_ ?_
  rotate_left
  ·intro w'
   go_simp
   with_reducible rfl
  rotate_left
  ·exact pt_
  refine pure_ (i := 5) (N := some 6) (v := ?_) (a' := ?_) #[true, true, true, true, true, true] rfl rfl (by kernel_rfl) (fun _ _ _ h => h) (Or.inl ⟨by rfl, ?_⟩) ?_ ?_
  rotate_left
  ·intro w'
   go_simp
   with_reducible rfl
  rotate_left
  ·exact pt_
  refine done_ (by kernel_rfl) ?_
  try go_wp2
  go_ret
  exact ⟨rf_, bw_ HB.out⟩
 ·rw [if_neg c7] at H
  have c7b0 : decide (t515 < t516) = false := decide_eq_false c7
  clear c7
  by_cases c25 : t515 > t516
  ·rw [if_pos c25] at H
   have c25b0 : decide (t516 < t515) = true := decide_eq_true c25
   clear c25
   obtain rfl := Option.some.inj H
   go_enter Tryd.func17, Tryd.ntmps17
   try go_wp2_with (first | ((with_reducible refine gate_dst (N := 2) rfl ?_); refine bx_ 2 #[.int .i64 a0_0, .bool a0_1, .int .u64 a0_2, .int .i64 a0_3] 30 ?_; intro gb505 hg w26 hbox hb; have BK505 := Aside0.mk (hbox); have GW505 := ge_ hg HB; have GE505 := ge_ hg HB; replace HB := bq_ HB hb; clear hb hbox hg) | ((with_reducible refine gate_dst (N := 3) rfl ?_); refine bx_ 3 #[.int .i64 a1_0, .bool a1_1, .int .u64 a1_2, .int .i64 a1_3] 30 ?_; intro gb506 hg w27 hbox hb; have BK506 := Aside0.mk (hbox); have GW506 := ge_ hg HB; have GE506 := ge_ hg HB; have NB505_506 := nb_ hg BK505; have NB506_505 := nc_ hg BK505; replace BK505 := kq_ BK505 hb; replace HB := bq_ HB hb; clear hb hbox hg))
   replace BK505 := Aside0.mk (blk_drew BK505.out)
   replace BK506 := Aside0.mk (blk_drew BK506.out)
   replace HB := Aside0.mk (below_drew1 HB.out)
   refine start_ (n := 6) (S := fun w' => w'.cell? ⟨gb505, 0, none⟩ = some (.int .i64 a0_0) ∧ w'.cell? ⟨gb505, 1, none⟩ = some (.bool a0_1) ∧ w'.cell? ⟨gb505, 2, none⟩ = some (.int .u64 a0_2) ∧ w'.cell? ⟨gb505, 3, none⟩ = some (.int .i64 a0_3) ∧ w'.cell? ⟨gb506, 0, none⟩ = some (.int .i64 a1_0) ∧ w'.cell? ⟨gb506, 1, none⟩ = some (.bool a1_1) ∧ w'.cell? ⟨gb506, 2, none⟩ = some (.int .u64 a1_2) ∧ w'.cell? ⟨gb506, 3, none⟩ = some (.int .i64 a1_3)) (ds := [4, 5]) #[false, false, false, false, false, false] (by kernel_rfl) rfl rfl ⟨(blk_cell BK505.out 0).trans rfl, (blk_cell BK505.out 1).trans rfl, (blk_cell BK505.out 2).trans rfl, (blk_cell BK505.out 3).trans rfl, (blk_cell BK506.out 0).trans rfl, (blk_cell BK506.out 1).trans rfl, (blk_cell BK506.out 2).trans rfl, (blk_cell BK506.out 3).trans rfl⟩ (fun hHeld => ?_)
   generalize w27.drew = w28 at BK505 BK506 HB hHeld ⊢
   refine take_ (i := 0) (N := some 7) (v := ?_) (a' := ?_) #[true, false, false, false, false, false] rfl rfl (by kernel_rfl) (fun _ _ _ h => h) (Or.inl ⟨by rfl, ?_⟩) hHeld ?_ ?_
   rotate_left
   ·rintro w' ⟨s0, s1, s2, s3, s4, s5, s6, s7⟩
    go_simp
    with_reducible rfl
   rotate_left
   ·exact pt_
   refine take_ (i := 2) (N := some 9) (v := ?_) (a' := ?_) #[true, false, true, false, false, false] rfl rfl (by kernel_rfl) (fun _ _ _ h => h) (Or.inl ⟨by rfl, ?_⟩) hHeld ?_ ?_
   rotate_left
   ·rintro w' ⟨s0, s1, s2, s3, s4, s5, s6, s7⟩
    go_simp
    with_reducible rfl
   rotate_left
   ·exact pt_
   refine one_ (i := 1) (N := some 8) #[true, true, true, false, false, false] rfl rfl (by kernel_rfl) (by decide) (fun K hK => ?_)
   refine gs_ Tryd.func52 #[.agg #[.int .i64 a0_0, .bool a0_1, .int .u64 a0_2, .int .i64 a0_3]] ?_
   with_reducible refine (num_fair.calls a0_0 a0_1 a0_2 a0_3 t507 t508 t509 t510 _ A3.out).mono ?_
   rintro e w29 ⟨rfl, hb⟩
   refine ⟨_, rfl, ?_⟩
   replace BK505 := kq_ BK505 hb
   replace BK506 := kq_ BK506 hb
   replace HB := bq_ HB hb
   (try clear hb)
   (try clear hb2)
   (try clear hk)
   (try clear hi)
   refine hK.out _ _ ⟨(blk_cell BK505.out 0).trans rfl, (blk_cell BK505.out 1).trans rfl, (blk_cell BK505.out 2).trans rfl, (blk_cell BK505.out 3).trans rfl, (blk_cell BK506.out 0).trans rfl, (blk_cell BK506.out 1).trans rfl, (blk_cell BK506.out 2).trans rfl, (blk_cell BK506.out 3).trans rfl⟩ (fun hHeld => ?_)
   clear hK K
   refine norm_ (a' := ?_) ?_ ?_
   rotate_left
   ·show Act.put _ (some 8) _ = _
    exact pt_
   refine one_ (i := 3) (N := some 10) #[true, true, true, true, false, false] rfl rfl (by kernel_rfl) (by decide) (fun K hK => ?_)
   refine gs_ Tryd.func52 #[.agg #[.int .i64 a1_0, .bool a1_1, .int .u64 a1_2, .int .i64 a1_3]] ?_
   with_reducible refine (num_fair.calls a1_0 a1_1 a1_2 a1_3 t511 t512 t513 t514 _ A4.out).mono ?_
   rintro e w30 ⟨rfl, hb⟩
   refine ⟨_, rfl, ?_⟩
   replace BK505 := kq_ BK505 hb
   replace BK506 := kq_ BK506 hb
   replace HB := bq_ HB hb
   (try clear hb)
   (try clear hb2)
   (try clear hk)
   (try clear hi)
   refine hK.out _ _ ⟨(blk_cell BK505.out 0).trans rfl, (blk_cell BK505.out 1).trans rfl, (blk_cell BK505.out 2).trans rfl, (blk_cell BK505.out 3).trans rfl, (blk_cell BK506.out 0).trans rfl, (blk_cell BK506.out 1).trans rfl, (blk_cell BK506.out 2).trans rfl, (blk_cell BK506.out 3).trans rfl⟩ (fun hHeld => ?_)
   clear hK K
   refine norm_ (a' := ?_) ?_ ?_
   rotate_left
   ·show Act.put _ (some 10) _ = _
    exact pt_
   refine last_ (i := 4) (N := none) #[true, true, true, true, true, false] rfl rfl (by kernel_rfl) (by decide) (fun K hK => ?_)
   have hs31 : w30.cell? ⟨gb505, 0, none⟩ = some (.int .i64 a0_0) := (blk_cell BK505.out 0).trans rfl
   have hfs31 := fz_ BK505 0
   have hns31_1 := NB506_505.out
   have hms31_1 := NB505_506.out
   have hs32 : w30.cell? ⟨gb505, 1, none⟩ = some (.bool a0_1) := (blk_cell BK505.out 1).trans rfl
   have hfs32 := fz_ BK505 1
   have hns32_1 := NB506_505.out
   have hms32_1 := NB505_506.out
   have hs33 : w30.cell? ⟨gb505, 2, none⟩ = some (.int .u64 a0_2) := (blk_cell BK505.out 2).trans rfl
   have hfs33 := fz_ BK505 2
   have hns33_1 := NB506_505.out
   have hms33_1 := NB505_506.out
   have hs34 : w30.cell? ⟨gb505, 3, none⟩ = some (.int .i64 a0_3) := (blk_cell BK505.out 3).trans rfl
   have hfs34 := fz_ BK505 3
   have hns34_1 := NB506_505.out
   have hms34_1 := NB505_506.out
   refine skip_ (w1 := ?_) (by rfl) rfl ?_ ?_
   rotate_left
   ·go_simp
    rfl
   refine hK.out _ _ ?_
   clear hK K
   refine last_ (i := 5) (N := none) #[true, true, true, true, true, true] rfl rfl (by kernel_rfl) (by decide) (fun K hK => ?_)
   have hs35 : w30.cell? ⟨gb506, 0, none⟩ = some (.int .i64 a1_0) := (blk_cell BK506.out 0).trans rfl
   have hfs35 := fz_ BK506 0
   have hns35_0 := NB505_506.out
   have hms35_0 := NB506_505.out
   have hs36 : w30.cell? ⟨gb506, 1, none⟩ = some (.bool a1_1) := (blk_cell BK506.out 1).trans rfl
   have hfs36 := fz_ BK506 1
   have hns36_0 := NB505_506.out
   have hms36_0 := NB506_505.out
   have hs37 : w30.cell? ⟨gb506, 2, none⟩ = some (.int .u64 a1_2) := (blk_cell BK506.out 2).trans rfl
   have hfs37 := fz_ BK506 2
   have hns37_0 := NB505_506.out
   have hms37_0 := NB506_505.out
   have hs38 : w30.cell? ⟨gb506, 3, none⟩ = some (.int .i64 a1_3) := (blk_cell BK506.out 3).trans rfl
   have hfs38 := fz_ BK506 3
   have hns38_0 := NB505_506.out
   have hms38_0 := NB506_505.out
   refine skip_ (w1 := ?_) (by rfl) rfl ?_ ?_
   rotate_left
   ·go_simp
    rfl
   refine hK.out _ _ ?_
   clear hK K
   refine done_ (by kernel_rfl) ?_
   try go_wp2
   have n0_ : Aside0 (((((((((w30.setCell ⟨gb505, 0, none⟩ (.int .i64 t507)).setCell ⟨gb505, 1, none⟩ (.bool t508)).setCell ⟨gb505, 2, none⟩ (.int .u64 t509)).setCell ⟨gb505, 3, none⟩ (.int .i64 t510)).setCell ⟨gb506, 0, none⟩ (.int .i64 t511)).setCell ⟨gb506, 1, none⟩ (.bool t512)).setCell ⟨gb506, 2, none⟩ (.int .u64 t513)).setCell ⟨gb506, 3, none⟩ (.int .i64 t514)).heap[gb505]? = some (.cells #[.int .i64 t507, .bool t508, .int .u64 t509, .int .i64 t510] 30 (0, 0))) := ⟨by refine kb_ ?_; refine bf_ NB505_506 ?_; refine bf_ NB505_506 ?_; refine bf_ NB505_506 ?_; refine bf_ NB505_506 ?_; refine bp_ #[.int .i64 t507, .bool t508, .int .u64 t509, .int .i64 a0_3] 3 ?_; refine bp_ #[.int .i64 t507, .bool t508, .int .u64 a0_2, .int .i64 a0_3] 2 ?_; refine bp_ #[.int .i64 t507, .bool a0_1, .int .u64 a0_2, .int .i64 a0_3] 1 ?_; refine bp_ #[.int .i64 a0_0, .bool a0_1, .int .u64 a0_2, .int .i64 a0_3] 0 ?_; exact BK505.out⟩
   have n1_ : Aside0 (((((((((w30.setCell ⟨gb505, 0, none⟩ (.int .i64 t507)).setCell ⟨gb505, 1, none⟩ (.bool t508)).setCell ⟨gb505, 2, none⟩ (.int .u64 t509)).setCell ⟨gb505, 3, none⟩ (.int .i64 t510)).setCell ⟨gb506, 0, none⟩ (.int .i64 t511)).setCell ⟨gb506, 1, none⟩ (.bool t512)).setCell ⟨gb506, 2, none⟩ (.int .u64 t513)).setCell ⟨gb506, 3, none⟩ (.int .i64 t514)).heap[gb506]? = some (.cells #[.int .i64 t511, .bool t512, .int .u64 t513, .int .i64 t514] 30 (0, 0))) := ⟨by refine kb_ ?_; refine bp_ #[.int .i64 t511, .bool t512, .int .u64 t513, .int .i64 a1_3] 3 ?_; refine bp_ #[.int .i64 t511, .bool t512, .int .u64 a1_2, .int .i64 a1_3] 2 ?_; refine bp_ #[.int .i64 t511, .bool a1_1, .int .u64 a1_2, .int .i64 a1_3] 1 ?_; refine bp_ #[.int .i64 a1_0, .bool a1_1, .int .u64 a1_2, .int .i64 a1_3] 0 ?_; refine bf_ NB506_505 ?_; refine bf_ NB506_505 ?_; refine bf_ NB506_505 ?_; refine bf_ NB506_505 ?_; exact BK506.out⟩
   have n2_ : Aside0 (Below w.heap.size w ((((((((w30.setCell ⟨gb505, 0, none⟩ (.int .i64 t507)).setCell ⟨gb505, 1, none⟩ (.bool t508)).setCell ⟨gb505, 2, none⟩ (.int .u64 t509)).setCell ⟨gb505, 3, none⟩ (.int .i64 t510)).setCell ⟨gb506, 0, none⟩ (.int .i64 t511)).setCell ⟨gb506, 1, none⟩ (.bool t512)).setCell ⟨gb506, 2, none⟩ (.int .u64 t513)).setCell ⟨gb506, 3, none⟩ (.int .i64 t514))) := ⟨bw_ HB.out⟩
   (try clear BK505)
   (try clear BK506)
   (try clear HB)
   generalize ((((((((w30.setCell ⟨gb505, 0, none⟩ (.int .i64 t507)).setCell ⟨gb505, 1, none⟩ (.bool t508)).setCell ⟨gb505, 2, none⟩ (.int .u64 t509)).setCell ⟨gb505, 3, none⟩ (.int .i64 t510)).setCell ⟨gb506, 0, none⟩ (.int .i64 t511)).setCell ⟨gb506, 1, none⟩ (.bool t512)).setCell ⟨gb506, 2, none⟩ (.int .u64 t513)).setCell ⟨gb506, 3, none⟩ (.int .i64 t514)) = w39 at n0_ n1_ n2_ ⊢
   have BK505 := n0_
   have BK506 := n1_
   have HB := n2_
   clear n0_ n1_ n2_
   replace BK505 := Aside0.mk (blk_drew BK505.out)
   replace BK506 := Aside0.mk (blk_drew BK506.out)
   replace HB := Aside0.mk (below_drew1 HB.out)
   refine start_ (n := 6) (S := fun w' => w'.cell? ⟨gb505, 0, none⟩ = some (.int .i64 t507) ∧ w'.cell? ⟨gb505, 1, none⟩ = some (.bool t508) ∧ w'.cell? ⟨gb505, 2, none⟩ = some (.int .u64 t509) ∧ w'.cell? ⟨gb505, 3, none⟩ = some (.int .i64 t510) ∧ w'.cell? ⟨gb506, 0, none⟩ = some (.int .i64 t511) ∧ w'.cell? ⟨gb506, 1, none⟩ = some (.bool t512) ∧ w'.cell? ⟨gb506, 2, none⟩ = some (.int .u64 t513) ∧ w'.cell? ⟨gb506, 3, none⟩ = some (.int .i64 t514)) (ds := []) #[false, false, false, false, false, false] (by kernel_rfl) rfl rfl ⟨(blk_cell BK505.out 0).trans rfl, (blk_cell BK505.out 1).trans rfl, (blk_cell BK505.out 2).trans rfl, (blk_cell BK505.out 3).trans rfl, (blk_cell BK506.out 0).trans rfl, (blk_cell BK506.out 1).trans rfl, (blk_cell BK506.out 2).trans rfl, (blk_cell BK506.out 3).trans rfl⟩ (fun hHeld => ?_)
   generalize w39.drew = w40 at BK505 BK506 HB hHeld ⊢
   refine take_ (i := 0) (N := some 11) (v := ?_) (a' := ?_) #[true, false, false, false, false, false] rfl rfl (by kernel_rfl) (fun _ _ _ h => h) (Or.inl ⟨by rfl, ?_⟩) hHeld ?_ ?_
   rotate_left
   ·rintro w' ⟨s0, s1, s2, s3, s4, s5, s6, s7⟩
    go_simp
    with_reducible rfl
   rotate_left
   ·exact pt_
   refine take_ (i := 2) (N := some 13) (v := ?_) (a' := ?_) #[true, false, true, false, false, false] rfl rfl (by kernel_rfl) (fun _ _ _ h => h) (Or.inl ⟨by rfl, ?_⟩) hHeld ?_ ?_
   rotate_left
   ·rintro w' ⟨s0, s1, s2, s3, s4, s5, s6, s7⟩
    go_simp
    with_reducible rfl
   rotate_left
   ·exact pt_
   refine one_ (i := 1) (N := some 12) #[true, true, true, false, false, false] rfl rfl (by kernel_rfl) (by decide) (fun K hK => ?_)
   refine gs_ Tryd.func18 #[.agg #[.int .i64 t507, .bool t508, .int .u64 t509, .int .i64 t510]] ?_
   with_reducible refine (num_Sign.calls t507 t508 t509 t510 t515 _ A5.out).mono ?_
   rintro e w41 ⟨rfl, hb⟩
   refine ⟨_, rfl, ?_⟩
   replace BK505 := kq_ BK505 hb
   replace BK506 := kq_ BK506 hb
   replace HB := bq_ HB hb
   (try clear hb)
   (try clear hb2)
   (try clear hk)
   (try clear hi)
   refine hK.out _ _ ⟨(blk_cell BK505.out 0).trans rfl, (blk_cell BK505.out 1).trans rfl, (blk_cell BK505.out 2).trans rfl, (blk_cell BK505.out 3).trans rfl, (blk_cell BK506.out 0).trans rfl, (blk_cell BK506.out 1).trans rfl, (blk_cell BK506.out 2).trans rfl, (blk_cell BK506.out 3).trans rfl⟩ (fun hHeld => ?_)
   clear hK K
   refine norm_ (a' := ?_) ?_ ?_
   rotate_left
   ·show Act.put _ (some 12) _ = _
    exact pt_
   refine one_ (i := 3) (N := some 14) #[true, true, true, true, false, false] rfl rfl (by kernel_rfl) (by decide) (fun K hK => ?_)
   refine gs_ Tryd.func18 #[.agg #[.int .i64 t511, .bool t512, .int .u64 t513, .int .i64 t514]] ?_
   with_reducible refine (num_Sign.calls t511 t512 t513 t514 t516 _ A6.out).mono ?_
   rintro e w42 ⟨rfl, hb⟩
   refine ⟨_, rfl, ?_⟩
   replace BK505 := kq_ BK505 hb
   replace BK506 := kq_ BK506 hb
   replace HB := bq_ HB hb
   (try clear hb)
   (try clear hb2)
   (try clear hk)
   (try clear hi)
   refine hK.out _ _ ⟨(blk_cell BK505.out 0).trans rfl, (blk_cell BK505.out 1).trans rfl, (blk_cell BK505.out 2).trans rfl, (blk_cell BK505.out 3).trans rfl, (blk_cell BK506.out 0).trans rfl, (blk_cell BK506.out 1).trans rfl, (blk_cell BK506.out 2).trans rfl, (blk_cell BK506.out 3).trans rfl⟩ (fun hHeld => ?_)
   clear hK K
   refine norm_ (a' := ?_) ?_ ?_
   rotate_left
   ·show Act.put _ (some 14) _ = _
    exact pt_
   refine pure_ (i := 4) (N := some 5) (v := ?_) (a' := ?_) #[true, true, true, true, true, false] rfl rfl (by kernel_rfl) (fun _ _ _ h => h) (Or.inl ⟨by rfl, ?_⟩) ?_ ?_
   rotate_left
   ·intro w'
    go_simp
    with_reducible rfl
   rotate_left
   ·exact pt_
   refine pure_ (i := 5) (N := some 6) (v := ?_) (a' := ?_) #[true, true, true, true, true, true] rfl rfl (by kernel_rfl) (fun _ _ _ h => h) (Or.inl ⟨by rfl, ?_⟩) ?_ ?_
   rotate_left
   ·intro w'
    go_simp
    with_reducible rfl
   rotate_left
   ·exact pt_
   refine done_ (by kernel_rfl) ?_
   try go_wp2
   go_ret
   exact ⟨rf_, bw_ HB.out⟩
  ·rw [if_neg c25] at H
   have c25b0 : decide (t516 < t515) = false := decide_eq_false c25
   clear c25
   replace H := Option.bind_eq_some_iff.mp H
   obtain ⟨t517, A430, H⟩ := H
   (try dsimp only at H)
   have A43 := Aside0.mk A430
   clear A430
   by_cases c44 : t517 = true
   ·subst c44
    have H1 : (some t515) = some r := by rw [if_pos rfl] at H; exact H
    clear H
    have H := H1
    clear H1
    obtain rfl := Option.some.inj H
    go_enter Tryd.func17, Tryd.ntmps17
    try go_wp2_with (first | ((with_reducible refine gate_dst (N := 2) rfl ?_); refine bx_ 2 #[.int .i64 a0_0, .bool a0_1, .int .u64 a0_2, .int .i64 a0_3] 30 ?_; intro gb505 hg w45 hbox hb; have BK505 := Aside0.mk (hbox); have GW505 := ge_ hg HB; have GE505 := ge_ hg HB; replace HB := bq_ HB hb; clear hb hbox hg) | ((with_reducible refine gate_dst (N := 3) rfl ?_); refine bx_ 3 #[.int .i64 a1_0, .bool a1_1, .int .u64 a1_2, .int .i64 a1_3] 30 ?_; intro gb506 hg w46 hbox hb; have BK506 := Aside0.mk (hbox); have GW506 := ge_ hg HB; have GE506 := ge_ hg HB; have NB505_506 := nb_ hg BK505; have NB506_505 := nc_ hg BK505; replace BK505 := kq_ BK505 hb; replace HB := bq_ HB hb; clear hb hbox hg))
    replace BK505 := Aside0.mk (blk_drew BK505.out)
    replace BK506 := Aside0.mk (blk_drew BK506.out)
    replace HB := Aside0.mk (below_drew1 HB.out)
    refine start_ (n := 6) (S := fun w' => w'.cell? ⟨gb505, 0, none⟩ = some (.int .i64 a0_0) ∧ w'.cell? ⟨gb505, 1, none⟩ = some (.bool a0_1) ∧ w'.cell? ⟨gb505, 2, none⟩ = some (.int .u64 a0_2) ∧ w'.cell? ⟨gb505, 3, none⟩ = some (.int .i64 a0_3) ∧ w'.cell? ⟨gb506, 0, none⟩ = some (.int .i64 a1_0) ∧ w'.cell? ⟨gb506, 1, none⟩ = some (.bool a1_1) ∧ w'.cell? ⟨gb506, 2, none⟩ = some (.int .u64 a1_2) ∧ w'.cell? ⟨gb506, 3, none⟩ = some (.int .i64 a1_3)) (ds := [4, 5]) #[false, false, false, false, false, false] (by kernel_rfl) rfl rfl ⟨(blk_cell BK505.out 0).trans rfl, (blk_cell BK505.out 1).trans rfl, (blk_cell BK505.out 2).trans rfl, (blk_cell BK505.out 3).trans rfl, (blk_cell BK506.out 0).trans rfl, (blk_cell BK506.out 1).trans rfl, (blk_cell BK506.out 2).trans rfl, (blk_cell BK506.out 3).trans rfl⟩ (fun hHeld => ?_)
    generalize w46.drew = w47 at BK505 BK506 HB hHeld ⊢
    refine take_ (i := 0) (N := some 7) (v := ?_) (a' := ?_) #[true, false, false, false, false, false] rfl rfl (by kernel_rfl) (fun _ _ _ h => h) (Or.inl ⟨by rfl, ?_⟩) hHeld ?_ ?_
    rotate_left
    ·rintro w' ⟨s0, s1, s2, s3, s4, s5, s6, s7⟩
     go_simp
     with_reducible rfl
    rotate_left
    ·exact pt_
    refine take_ (i := 2) (N := some 9) (v := ?_) (a' := ?_) #[true, false, true, false, false, false] rfl rfl (by kernel_rfl) (fun _ _ _ h => h) (Or.inl ⟨by rfl, ?_⟩) hHeld ?_ ?_
    rotate_left
    ·rintro w' ⟨s0, s1, s2, s3, s4, s5, s6, s7⟩
     go_simp
     with_reducible rfl
    rotate_left
    ·exact pt_
    refine one_ (i := 1) (N := some 8) #[true, true, true, false, false, false] rfl rfl (by kernel_rfl) (by decide) (fun K hK => ?_)
    refine gs_ Tryd.func52 #[.agg #[.int .i64 a0_0, .bool a0_1, .int .u64 a0_2, .int .i64 a0_3]] ?_
    with_reducible refine (num_fair.calls a0_0 a0_1 a0_2 a0_3 t507 t508 t509 t510 _ A3.out).mono ?_
    rintro e w48 ⟨rfl, hb⟩
    refine ⟨_, rfl, ?_⟩
    replace BK505 := kq_ BK505 hb
    replace BK506 := kq_ BK506 hb
    replace HB := bq_ HB hb
    (try clear hb)
    (try clear hb2)
    (try clear hk)
    (try clear hi)
    refine hK.out _ _ ⟨(blk_cell BK505.out 0).trans rfl, (blk_cell BK505.out 1).trans rfl, (blk_cell BK505.out 2).trans rfl, (blk_cell BK505.out 3).trans rfl, (blk_cell BK506.out 0).trans rfl, (blk_cell BK506.out 1).trans rfl, (blk_cell BK506.out 2).trans rfl, (blk_cell BK506.out 3).trans rfl⟩ (fun hHeld => ?_)
    clear hK K
    refine norm_ (a' := ?_) ?_ ?_
    rotate_left
    ·show Act.put _ (some 8) _ = _
     exact pt_
    refine one_ (i := 3) (N := some 10) #[true, true, true, true, false, false] rfl rfl (by kernel_rfl) (by decide) (fun K hK => ?_)
    refine gs_ Tryd.func52 #[.agg #[.int .i64 a1_0, .bool a1_1, .int .u64 a1_2, .int .i64 a1_3]] ?_
    with_reducible refine (num_fair.calls a1_0 a1_1 a1_2 a1_3 t511 t512 t513 t514 _ A4.out).mono ?_
    rintro e w49 ⟨rfl, hb⟩
    refine ⟨_, rfl, ?_⟩
    replace BK505 := kq_ BK505 hb
    replace BK506 := kq_ BK506 hb
    replace HB := bq_ HB hb
    (try clear hb)
    (try clear hb2)
    (try clear hk)
    (try clear hi)
    refine hK.out _ _ ⟨(blk_cell BK505.out 0).trans rfl, (blk_cell BK505.out 1).trans rfl, (blk_cell BK505.out 2).trans rfl, (blk_cell BK505.out 3).trans rfl, (blk_cell BK506.out 0).trans rfl, (blk_cell BK506.out 1).trans rfl, (blk_cell BK506.out 2).trans rfl, (blk_cell BK506.out 3).trans rfl⟩ (fun hHeld => ?_)
    clear hK K
    refine norm_ (a' := ?_) ?_ ?_
    rotate_left
    ·show Act.put _ (some 10) _ = _
     exact pt_
    refine last_ (i := 4) (N := none) #[true, true, true, true, true, false] rfl rfl (by kernel_rfl) (by decide) (fun K hK => ?_)
    have hs50 : w49.cell? ⟨gb505, 0, none⟩ = some (.int .i64 a0_0) := (blk_cell BK505.out 0).trans rfl
    have hfs50 := fz_ BK505 0
    have hns50_1 := NB506_505.out
    have hms50_1 := NB505_506.out
    have hs51 : w49.cell? ⟨gb505, 1, none⟩ = some (.bool a0_1) := (blk_cell BK505.out 1).trans rfl
    have hfs51 := fz_ BK505 1
    have hns51_1 := NB506_505.out
    have hms51_1 := NB505_506.out
    have hs52 : w49.cell? ⟨gb505, 2, none⟩ = some (.int .u64 a0_2) := (blk_cell BK505.out 2).trans rfl
    have hfs52 := fz_ BK505 2
    have hns52_1 := NB506_505.out
    have hms52_1 := NB505_506.out
    have hs53 : w49.cell? ⟨gb505, 3, none⟩ = some (.int .i64 a0_3) := (blk_cell BK505.out 3).trans rfl
    have hfs53 := fz_ BK505 3
    have hns53_1 := NB506_505.out
    have hms53_1 := NB505_506.out
    refine skip_ (w1 := ?_) (by rfl) rfl ?_ ?_
    rotate_left
    ·go_simp
     rfl
    refine hK.out _ _ ?_
    clear hK K
    refine last_ (i := 5) (N := none) #[true, true, true, true, true, true] rfl rfl (by kernel_rfl) (by decide) (fun K hK => ?_)
    have hs54 : w49.cell? ⟨gb506, 0, none⟩ = some (.int .i64 a1_0) := (blk_cell BK506.out 0).trans rfl
    have hfs54 := fz_ BK506 0
    have hns54_0 := NB505_506.out
    have hms54_0 := NB506_505.out
    have hs55 : w49.cell? ⟨gb506, 1, none⟩ = some (.bool a1_1) := (blk_cell BK506.out 1).trans rfl
    have hfs55 := fz_ BK506 1
    have hns55_0 := NB505_506.out
    have hms55_0 := NB506_505.out
    have hs56 : w49.cell? ⟨gb506, 2, none⟩ = some (.int .u64 a1_2) := (blk_cell BK506.out 2).trans rfl
    have hfs56 := fz_ BK506 2
    have hns56_0 := NB505_506.out
    have hms56_0 := NB506_505.out
    have hs57 : w49.cell? ⟨gb506, 3, none⟩ = some (.int .i64 a1_3) := (blk_cell BK506.out 3).trans rfl
    have hfs57 := fz_ BK506 3
    have hns57_0 := NB505_506.out
    have hms57_0 := NB506_505.out
    refine skip_ (w1 := ?_) (by rfl) rfl ?_ ?_
    rotate_left
    ·go_simp
     rfl
    refine hK.out _ _ ?_
    clear hK K
    refine done_ (by kernel_rfl) ?_
    try go_wp2
    have n0_ : Aside0 (((((((((w49.setCell ⟨gb505, 0, none⟩ (.int .i64 t507)).setCell ⟨gb505, 1, none⟩ (.bool t508)).setCell ⟨gb505, 2, none⟩ (.int .u64 t509)).setCell ⟨gb505, 3, none⟩ (.int .i64 t510)).setCell ⟨gb506, 0, none⟩ (.int .i64 t511)).setCell ⟨gb506, 1, none⟩ (.bool t512)).setCell ⟨gb506, 2, none⟩ (.int .u64 t513)).setCell ⟨gb506, 3, none⟩ (.int .i64 t514)).heap[gb505]? = some (.cells #[.int .i64 t507, .bool t508, .int .u64 t509, .int .i64 t510] 30 (0, 0))) := ⟨by refine kb_ ?_; refine bf_ NB505_506 ?_; refine bf_ NB505_506 ?_; refine bf_ NB505_506 ?_; refine bf_ NB505_506 ?_; refine bp_ #[.int .i64 t507, .bool t508, .int .u64 t509, .int .i64 a0_3] 3 ?_; refine bp_ #[.int .i64 t507, .bool t508, .int .u64 a0_2, .int .i64 a0_3] 2 ?_; refine bp_ #[.int .i64 t507, .bool a0_1, .int .u64 a0_2, .int .i64 a0_3] 1 ?_; refine bp_ #[.int .i64 a0_0, .bool a0_1, .int .u64 a0_2, .int .i64 a0_3] 0 ?_; exact BK505.out⟩
    have n1_ : Aside0 (((((((((w49.setCell ⟨gb505, 0, none⟩ (.int .i64 t507)).setCell ⟨gb505, 1, none⟩ (.bool t508)).setCell ⟨gb505, 2, none⟩ (.int .u64 t509)).setCell ⟨gb505, 3, none⟩ (.int .i64 t510)).setCell ⟨gb506, 0, none⟩ (.int .i64 t511)).setCell ⟨gb506, 1, none⟩ (.bool t512)).setCell ⟨gb506, 2, none⟩ (.int .u64 t513)).setCell ⟨gb506, 3, none⟩ (.int .i64 t514)).heap[gb506]? = some (.cells #[.int .i64 t511, .bool t512, .int .u64 t513, .int .i64 t514] 30 (0, 0))) := ⟨by refine kb_ ?_; refine bp_ #[.int .i64 t511, .bool t512, .int .u64 t513, .int .i64 a1_3] 3 ?_; refine bp_ #[.int .i64 t511, .bool t512, .int .u64 a1_2, .int .i64 a1_3] 2 ?_; refine bp_ #[.int .i64 t511, .bool a1_1, .int .u64 a1_2, .int .i64 a1_3] 1 ?_; refine bp_ #[.int .i64 a1_0, .bool a1_1, .int .u64 a1_2, .int .i64 a1_3] 0 ?_; refine bf_ NB506_505 ?_; refine bf_ NB506_505 ?_; refine bf_ NB506_505 ?_; refine bf_ NB506_505 ?_; exact BK506.out⟩
    have n2_ : Aside0 (Below w.heap.size w ((((((((w49.setCell ⟨gb505, 0, none⟩ (.int .i64 t507)).setCell ⟨gb505, 1, none⟩ (.bool t508)).setCell ⟨gb505, 2, none⟩ (.int .u64 t509)).setCell ⟨gb505, 3, none⟩ (.int .i64 t510)).setCell ⟨gb506, 0, none⟩ (.int .i64 t511)).setCell ⟨gb506, 1, none⟩ (.bool t512)).setCell ⟨gb506, 2, none⟩ (.int .u64 t513)).setCell ⟨gb506, 3, none⟩ (.int .i64 t514))) := ⟨bw_ HB.out⟩
    (try clear BK505)
    (try clear BK506)
    (try clear HB)
    generalize ((((((((w49.setCell ⟨gb505, 0, none⟩ (.int .i64 t507)).setCell ⟨gb505, 1, none⟩ (.bool t508)).setCell ⟨gb505, 2, none⟩ (.int .u64 t509)).setCell ⟨gb505, 3, none⟩ (.int .i64 t510)).setCell ⟨gb506, 0, none⟩ (.int .i64 t511)).setCell ⟨gb506, 1, none⟩ (.bool t512)).setCell ⟨gb506, 2, none⟩ (.int .u64 t513)).setCell ⟨gb506, 3, none⟩ (.int .i64 t514)) = w58 at n0_ n1_ n2_ ⊢
    have BK505 := n0_
    have BK506 := n1_
    have HB := n2_
    clear n0_ n1_ n2_
    replace BK505 := Aside0.mk (blk_drew BK505.out)
    replace BK506 := Aside0.mk (blk_drew BK506.out)
    replace HB := Aside0.mk (below_drew1 HB.out)
    refine start_ (n := 6) (S := fun w' => w'.cell? ⟨gb505, 0, none⟩ = some (.int .i64 t507) ∧ w'.cell? ⟨gb505, 1, none⟩ = some (.bool t508) ∧ w'.cell? ⟨gb505, 2, none⟩ = some (.int .u64 t509) ∧ w'.cell? ⟨gb505, 3, none⟩ = some (.int .i64 t510) ∧ w'.cell? ⟨gb506, 0, none⟩ = some (.int .i64 t511) ∧ w'.cell? ⟨gb506, 1, none⟩ = some (.bool t512) ∧ w'.cell? ⟨gb506, 2, none⟩ = some (.int .u64 t513) ∧ w'.cell? ⟨gb506, 3, none⟩ = some (.int .i64 t514)) (ds := []) #[false, false, false, false, false, false] (by kernel_rfl) rfl rfl ⟨(blk_cell BK505.out 0).trans rfl, (blk_cell BK505.out 1).trans rfl, (blk_cell BK505.out 2).trans rfl, (blk_cell BK505.out 3).trans rfl, (blk_cell BK506.out 0).trans rfl, (blk_cell BK506.out 1).trans rfl, (blk_cell BK506.out 2).trans rfl, (blk_cell BK506.out 3).trans rfl⟩ (fun hHeld => ?_)
    generalize w58.drew = w59 at BK505 BK506 HB hHeld ⊢
    refine take_ (i := 0) (N := some 11) (v := ?_) (a' := ?_) #[true, false, false, false, false, false] rfl rfl (by kernel_rfl) (fun _ _ _ h => h) (Or.inl ⟨by rfl, ?_⟩) hHeld ?_ ?_
    rotate_left
    ·rintro w' ⟨s0, s1, s2, s3, s4, s5, s6, s7⟩
     go_simp
     with_reducible rfl
    rotate_left
    ·exact pt_
    refine take_ (i := 2) (N := some 13) (v := ?_) (a' := ?_) #[true, false, true, false, false, false] rfl rfl (by kernel_rfl) (fun _ _ _ h => h) (Or.inl ⟨by rfl, ?_⟩) hHeld ?_ ?_
    rotate_left
    ·rintro w' ⟨s0, s1, s2, s3, s4, s5, s6, s7⟩
     go_simp
     with_reducible rfl
    rotate_left
    ·exact pt_
    refine one_ (i := 1) (N := some 12) #[true, true, true, false, false, false] rfl rfl (by kernel_rfl) (by decide) (fun K hK => ?_)
    refine gs_ Tryd.func18 #[.agg #[.int .i64 t507, .bool t508, .int .u64 t509, .int .i64 t510]] ?_
    with_reducible refine (num_Sign.calls t507 t508 t509 t510 t515 _ A5.out).mono ?_
    rintro e w60 ⟨rfl, hb⟩
    refine ⟨_, rfl, ?_⟩
    replace BK505 := kq_ BK505 hb
    replace BK506 := kq_ BK506 hb
    replace HB := bq_ HB hb
    (try clear hb)
    (try clear hb2)
    (try clear hk)
    (try clear hi)
    refine hK.out _ _ ⟨(blk_cell BK505.out 0).trans rfl, (blk_cell BK505.out 1).trans rfl, (blk_cell BK505.out 2).trans rfl, (blk_cell BK505.out 3).trans rfl, (blk_cell BK506.out 0).trans rfl, (blk_cell BK506.out 1).trans rfl, (blk_cell BK506.out 2).trans rfl, (blk_cell BK506.out 3).trans rfl⟩ (fun hHeld => ?_)
    clear hK K
    refine norm_ (a' := ?_) ?_ ?_
    rotate_left
    ·show Act.put _ (some 12) _ = _
     exact pt_
    refine one_ (i := 3) (N := some 14) #[true, true, true, true, false, false] rfl rfl (by kernel_rfl) (by decide) (fun K hK => ?_)
    refine gs_ Tryd.func18 #[.agg #[.int .i64 t511, .bool t512, .int .u64 t513, .int .i64 t514]] ?_
    with_reducible refine (num_Sign.calls t511 t512 t513 t514 t516 _ A6.out).mono ?_
    rintro e w61 ⟨rfl, hb⟩
    refine ⟨_, rfl, ?_⟩
    replace BK505 := kq_ BK505 hb
    replace BK506 := kq_ BK506 hb
    replace HB := bq_ HB hb
    (try clear hb)
    (try clear hb2)
    (try clear hk)
    (try clear hi)
    refine hK.out _ _ ⟨(blk_cell BK505.out 0).trans rfl, (blk_cell BK505.out 1).trans rfl, (blk_cell BK505.out 2).trans rfl, (blk_cell BK505.out 3).trans rfl, (blk_cell BK506.out 0).trans rfl, (blk_cell BK506.out 1).trans rfl, (blk_cell BK506.out 2).trans rfl, (blk_cell BK506.out 3).trans rfl⟩ (fun hHeld => ?_)
    clear hK K
    refine norm_ (a' := ?_) ?_ ?_
    rotate_left
    ·show Act.put _ (some 14) _ = _
     exact pt_
    refine pure_ (i := 4) (N := some 5) (v := ?_) (a' := ?_) #[true, true, true, true, true, false] rfl rfl (by kernel_rfl) (fun _ _ _ h => h) (Or.inl ⟨by rfl, ?_⟩) ?_ ?_
    rotate_left
    ·intro w'
     go_simp
     with_reducible rfl
    rotate_left
    ·exact pt_
    refine pure_ (i := 5) (N := some 6) (v := ?_) (a' := ?_) #[true, true, true, true, true, true] rfl rfl (by kernel_rfl) (fun _ _ _ h => h) (Or.inl ⟨by rfl, ?_⟩) ?_ ?_
    rotate_left
    ·intro w'
     go_simp
     with_reducible rfl
    rotate_left
    ·exact pt_
    refine done_ (by kernel_rfl) ?_
    have hnb62 := NB505_506.out
    have hnc62 := NB506_505.out
    obtain ⟨hcz63_0, hcz63_1, hcz63_2, hcz63_3, hfz63_0, hfz63_1, hfz63_2, hfz63_3⟩ := c4_ BK505
    obtain ⟨hcz64_0, hcz64_1, hcz64_2, hcz64_3, hfz64_0, hfz64_1, hfz64_2, hfz64_3⟩ := c4_ BK506
    try go_wp2_with (first | ((with_reducible refine gate_callee (f := 53) rfl ?_); refine gl_ (some 26) Tryd.func53 #[.agg #[.int .i64 t507, .bool t508, .int .u64 t509, .int .i64 t510], .agg #[.int .i64 t511, .bool t512, .int .u64 t513, .int .i64 t514]] ?_; (with_reducible refine (num_farther.calls t507 t508 t509 t510 t511 t512 t513 t514 true _ A43.out).mono ?_); rintro e w65 ⟨rfl, hb⟩; refine ⟨_, rfl, ?_⟩; replace BK505 := kq_ BK505 hb; replace BK506 := kq_ BK506 hb; replace HB := bq_ HB hb; (try clear hb); (try clear hb2); (try clear hk); (try clear hi)))
    go_ret
    exact ⟨rf_, bw_ HB.out⟩
   ·replace c44 := Bool.eq_false_iff.mpr c44
    subst c44
    have H1 : ((num_farther.f t511 t512 t513 t514 t507 t508 t509 t510).bind fun t518 => (if t518 = true then (some (wrap64 (-t515))) else (some 0))) = some r := by rw [if_neg (show ¬ (false = true) by decide)] at H; exact H
    clear H
    have H := H1
    clear H1
    replace H := Option.bind_eq_some_iff.mp H
    obtain ⟨t518, A660, H⟩ := H
    (try dsimp only at H)
    have A66 := Aside0.mk A660
    clear A660
    by_cases c67 : t518 = true
    ·subst c67
     have H1 : (some (wrap64 (-t515))) = some r := by rw [if_pos rfl] at H; exact H
     clear H
     have H := H1
     clear H1
     obtain rfl := Option.some.inj H
     go_enter Tryd.func17, Tryd.ntmps17
     try go_wp2_with (first | ((with_reducible refine gate_dst (N := 2) rfl ?_); refine bx_ 2 #[.int .i64 a0_0, .bool a0_1, .int .u64 a0_2, .int .i64 a0_3] 30 ?_; intro gb505 hg w68 hbox hb; have BK505 := Aside0.mk (hbox); have GW505 := ge_ hg HB; have GE505 := ge_ hg HB; replace HB := bq_ HB hb; clear hb hbox hg) | ((with_reducible refine gate_dst (N := 3) rfl ?_); refine bx_ 3 #[.int .i64 a1_0, .bool a1_1, .int .u64 a1_2, .int .i64 a1_3] 30 ?_; intro gb506 hg w69 hbox hb; have BK506 := Aside0.mk (hbox); have GW506 := ge_ hg HB; have GE506 := ge_ hg HB; have NB505_506 := nb_ hg BK505; have NB506_505 := nc_ hg BK505; replace BK505 := kq_ BK505 hb; replace HB := bq_ HB hb; clear hb hbox hg))
     replace BK505 := Aside0.mk (blk_drew BK505.out)
     replace BK506 := Aside0.mk (blk_drew BK506.out)
     replace HB := Aside0.mk (below_drew1 HB.out)
     refine start_ (n := 6) (S := fun w' => w'.cell? ⟨gb505, 0, none⟩ = some (.int .i64 a0_0) ∧ w'.cell? ⟨gb505, 1, none⟩ = some (.bool a0_1) ∧ w'.cell? ⟨gb505, 2, none⟩ = some (.int .u64 a0_2) ∧ w'.cell? ⟨gb505, 3, none⟩ = some (.int .i64 a0_3) ∧ w'.cell? ⟨gb506, 0, none⟩ = some (.int .i64 a1_0) ∧ w'.cell? ⟨gb506, 1, none⟩ = some (.bool a1_1) ∧ w'.cell? ⟨gb506, 2, none⟩ = some (.int .u64 a1_2) ∧ w'.cell? ⟨gb506, 3, none⟩ = some (.int .i64 a1_3)) (ds := [4, 5]) #[false, false, false, false, false, false] (by kernel_rfl) rfl rfl ⟨(blk_cell BK505.out 0).trans rfl, (blk_cell BK505.out 1).trans rfl, (blk_cell BK505.out 2).trans rfl, (blk_cell BK505.out 3).trans rfl, (blk_cell BK506.out 0).trans rfl, (blk_cell BK506.out 1).trans rfl, (blk_cell BK506.out 2).trans rfl, (blk_cell BK506.out 3).trans rfl⟩ (fun hHeld => ?_)
     generalize w69.drew = w70 at BK505 BK506 HB hHeld ⊢
     refine take_ (i := 0) (N := some 7) (v := ?_) (a' := ?_) #[true, false, false, false, false, false] rfl rfl (by kernel_rfl) (fun _ _ _ h => h) (Or.inl ⟨by rfl, ?_⟩) hHeld ?_ ?_
     rotate_left
     ·rintro w' ⟨s0, s1, s2, s3, s4, s5, s6, s7⟩
      go_simp
      with_reducible rfl
     rotate_left
     ·exact pt_
     refine take_ (i := 2) (N := some 9) (v := ?_) (a' := ?_) #[true, false, true, false, false, false] rfl rfl (by kernel_rfl) (fun _ _ _ h => h) (Or.inl ⟨by rfl, ?_⟩) hHeld ?_ ?_
     rotate_left
     ·rintro w' ⟨s0, s1, s2, s3, s4, s5, s6, s7⟩
      go_simp
      with_reducible rfl
     rotate_left
     ·exact pt_
     refine one_ (i := 1) (N := some 8) #[true, true, true, false, false, false] rfl rfl (by kernel_rfl) (by decide) (fun K hK => ?_)
     refine gs_ Tryd.func52 #[.agg #[.int .i64 a0_0, .bool a0_1, .int .u64 a0_2, .int .i64 a0_3]] ?_
     with_reducible refine (num_fair.calls a0_0 a0_1 a0_2 a0_3 t507 t508 t509 t510 _ A3.out).mono ?_
     rintro e w71 ⟨rfl, hb⟩
     refine ⟨_, rfl, ?_⟩
     replace BK505 := kq_ BK505 hb
     replace BK506 := kq_ BK506 hb
     replace HB := bq_ HB hb
     (try clear hb)
     (try clear hb2)
     (try clear hk)
     (try clear hi)
     refine hK.out _ _ ⟨(blk_cell BK505.out 0).trans rfl, (blk_cell BK505.out 1).trans rfl, (blk_cell BK505.out 2).trans rfl, (blk_cell BK505.out 3).trans rfl, (blk_cell BK506.out 0).trans rfl, (blk_cell BK506.out 1).trans rfl, (blk_cell BK506.out 2).trans rfl, (blk_cell BK506.out 3).trans rfl⟩ (fun hHeld => ?_)
     clear hK K
     refine norm_ (a' := ?_) ?_ ?_
     rotate_left
     ·show Act.put _ (some 8) _ = _
      exact pt_
     refine one_ (i := 3) (N := some 10) #[true, true, true, true, false, false] rfl rfl (by kernel_rfl) (by decide) (fun K hK => ?_)
     refine gs_ Tryd.func52 #[.agg #[.int .i64 a1_0, .bool a1_1, .int .u64 a1_2, .int .i64 a1_3]] ?_
     with_reducible refine (num_fair.calls a1_0 a1_1 a1_2 a1_3 t511 t512 t513 t514 _ A4.out).mono ?_
     rintro e w72 ⟨rfl, hb⟩
     refine ⟨_, rfl, ?_⟩
     replace BK505 := kq_ BK505 hb
     replace BK506 := kq_ BK506 hb
     replace HB := bq_ HB hb
     (try clear hb)
     (try clear hb2)
     (try clear hk)
     (try clear hi)
     refine hK.out _ _ ⟨(blk_cell BK505.out 0).trans rfl, (blk_cell BK505.out 1).trans rfl, (blk_cell BK505.out 2).trans rfl, (blk_cell BK505.out 3).trans rfl, (blk_cell BK506.out 0).trans rfl, (blk_cell BK506.out 1).trans rfl, (blk_cell BK506.out 2).trans rfl, (blk_cell BK506.out 3).trans rfl⟩ (fun hHeld => ?_)
     clear hK K
     refine norm_ (a' := ?_) ?_ ?_
     rotate_left
     ·show Act.put _ (some 10) _ = _
      exact pt_
     refine last_ (i := 4) (N := none) #[true, true, true, true, true, false] rfl rfl (by kernel_rfl) (by decide) (fun K hK => ?_)
     have hs73 : w72.cell? ⟨gb505, 0, none⟩ = some (.int .i64 a0_0) := (blk_cell BK505.out 0).trans rfl
     have hfs73 := fz_ BK505 0
     have hns73_1 := NB506_505.out
     have hms73_1 := NB505_506.out
     have hs74 : w72.cell? ⟨gb505, 1, none⟩ = some (.bool a0_1) := (blk_cell BK505.out 1).trans rfl
     have hfs74 := fz_ BK505 1
     have hns74_1 := NB506_505.out
     have hms74_1 := NB505_506.out
     have hs75 : w72.cell? ⟨gb505, 2, none⟩ = some (.int .u64 a0_2) := (blk_cell BK505.out 2).trans rfl
     have hfs75 := fz_ BK505 2
     have hns75_1 := NB506_505.out
     have hms75_1 := NB505_506.out
     have hs76 : w72.cell? ⟨gb505, 3, none⟩ = some (.int .i64 a0_3) := (blk_cell BK505.out 3).trans rfl
     have hfs76 := fz_ BK505 3
     have hns76_1 := NB506_505.out
     have hms76_1 := NB505_506.out
     refine skip_ (w1 := ?_) (by rfl) rfl ?_ ?_
     rotate_left
     ·go_simp
      rfl
     refine hK.out _ _ ?_
     clear hK K
     refine last_ (i := 5) (N := none) #[true, true, true, true, true, true] rfl rfl (by kernel_rfl) (by decide) (fun K hK => ?_)
     have hs77 : w72.cell? ⟨gb506, 0, none⟩ = some (.int .i64 a1_0) := (blk_cell BK506.out 0).trans rfl
     have hfs77 := fz_ BK506 0
     have hns77_0 := NB505_506.out
     have hms77_0 := NB506_505.out
     have hs78 : w72.cell? ⟨gb506, 1, none⟩ = some (.bool a1_1) := (blk_cell BK506.out 1).trans rfl
     have hfs78 := fz_ BK506 1
     have hns78_0 := NB505_506.out
     have hms78_0 := NB506_505.out
     have hs79 : w72.cell? ⟨gb506, 2, none⟩ = some (.int .u64 a1_2) := (blk_cell BK506.out 2).trans rfl
     have hfs79 := fz_ BK506 2
     have hns79_0 := NB505_506.out
     have hms79_0 := NB506_505.out
     have hs80 : w72.cell? ⟨gb506, 3, none⟩ = some (.int .i64 a1_3) := (blk_cell BK506.out 3).trans rfl
     have hfs80 := fz_ BK506 3
     have hns80_0 := NB505_506.out
     have hms80_0 := NB506_505.out
     refine skip_ (w1 := ?_) (by rfl) rfl ?_ ?_
     rotate_left
     ·go_simp
      rfl
     refine hK.out _ _ ?_
     clear hK K
     refine done_ (by kernel_rfl) ?_
     try go_wp2
     have n0_ : Aside0 (((((((((w72.setCell ⟨gb505, 0, none⟩ (.int .i64 t507)).setCell ⟨gb505, 1, none⟩ (.bool t508)).setCell ⟨gb505, 2, none⟩ (.int .u64 t509)).setCell ⟨gb505, 3, none⟩ (.int .i64 t510)).setCell ⟨gb506, 0, none⟩ (.int .i64 t511)).setCell ⟨gb506, 1, none⟩ (.bool t512)).setCell ⟨gb506, 2, none⟩ (.int .u64 t513)).setCell ⟨gb506, 3, none⟩ (.int .i64 t514)).heap[gb505]? = some (.cells #[.int .i64 t507, .bool t508, .int .u64 t509, .int .i64 t510] 30 (0, 0))) := ⟨by refine kb_ ?_; refine bf_ NB505_506 ?_; refine bf_ NB505_506 ?_; refine bf_ NB505_506 ?_; refine bf_ NB505_506 ?_; refine bp_ #[.int .i64 t507, .bool t508, .int .u64 t509, .int .i64 a0_3] 3 ?_; refine bp_ #[.int .i64 t507, .bool t508, .int .u64 a0_2, .int .i64 a0_3] 2 ?_; refine bp_ #[.int .i64 t507, .bool a0_1, .int .u64 a0_2, .int .i64 a0_3] 1 ?_; refine bp_ #[.int .i64 a0_0, .bool a0_1, .int .u64 a0_2, .int .i64 a0_3] 0 ?_; exact BK505.out⟩
     have n1_ : Aside0 (((((((((w72.setCell ⟨gb505, 0, none⟩ (.int .i64 t507)).setCell ⟨gb505, 1, none⟩ (.bool t508)).setCell ⟨gb505, 2, none⟩ (.int .u64 t509)).setCell ⟨gb505, 3, none⟩ (.int .i64 t510)).setCell ⟨gb506, 0, none⟩ (.int .i64 t511)).setCell ⟨gb506, 1, none⟩ (.bool t512)).setCell ⟨gb506, 2, none⟩ (.int .u64 t513)).setCell ⟨gb506, 3, none⟩ (.int .i64 t514)).heap[gb506]? = some (.cells #[.int .i64 t511, .bool t512, .int .u64 t513, .int .i64 t514] 30 (0, 0))) := ⟨by refine kb_ ?_; refine bp_ #[.int .i64 t511, .bool t512, .int .u64 t513, .int .i64 a1_3] 3 ?_; refine bp_ #[.int .i64 t511, .bool t512, .int .u64 a1_2, .int .i64 a1_3] 2 ?_; refine bp_ #[.int .i64 t511, .bool a1_1, .int .u64 a1_2, .int .i64 a1_3] 1 ?_; refine bp_ #[.int .i64 a1_0, .bool a1_1, .int .u64 a1_2, .int .i64 a1_3] 0 ?_; refine bf_ NB506_505 ?_; refine bf_ NB506_505 ?_; refine bf_ NB506_505 ?_; refine bf_ NB506_505 ?_; exact BK506.out⟩
     have n2_ : Aside0 (Below w.heap.size w ((((((((w72.setCell ⟨gb505, 0, none⟩ (.int .i64 t507)).setCell ⟨gb505, 1, none⟩ (.bool t508)).setCell ⟨gb505, 2, none⟩ (.int .u64 t509)).setCell ⟨gb505, 3, none⟩ (.int .i64 t510)).setCell ⟨gb506, 0, none⟩ (.int .i64 t511)).setCell ⟨gb506, 1, none⟩ (.bool t512)).setCell ⟨gb506, 2, none⟩ (.int .u64 t513)).setCell ⟨gb506, 3, none⟩ (.int .i64 t514))) := ⟨bw_ HB.out⟩
     (try clear BK505)
     (try clear BK506)
     (try clear HB)
     generalize ((((((((w72.setCell ⟨gb505, 0, none⟩ (.int .i64 t507)).setCell ⟨gb505, 1, none⟩ (.bool t508)).setCell ⟨gb505, 2, none⟩ (.int .u64 t509)).setCell ⟨gb505, 3, none⟩ (.int .i64 t510)).setCell ⟨gb506, 0, none⟩ (.int .i64 t511)).setCell ⟨gb506, 1, none⟩ (.bool t512)).setCell ⟨gb506, 2, none⟩ (.int .u64 t513)).setCell ⟨gb506, 3, none⟩ (.int .i64 t514)) = w81 at n0_ n1_ n2_ ⊢
     have BK505 := n0_
     have BK506 := n1_
     have HB := n2_
     clear n0_ n1_ n2_
     replace BK505 := Aside0.mk (blk_drew BK505.out)
     replace BK506 := Aside0.mk (blk_drew BK506.out)
     replace HB := Aside0.mk (below_drew1 HB.out)
     refine start_ (n := 6) (S := fun w' => w'.cell? ⟨gb505, 0, none⟩ = some (.int .i64 t507) ∧ w'.cell? ⟨gb505, 1, none⟩ = some (.bool t508) ∧ w'.cell? ⟨gb505, 2, none⟩ = some (.int .u64 t509) ∧ w'.cell? ⟨gb505, 3, none⟩ = some (.int .i64 t510) ∧ w'.cell? ⟨gb506, 0, none⟩ = some (.int .i64 t511) ∧ w'.cell? ⟨gb506, 1, none⟩ = some (.bool t512) ∧ w'.cell? ⟨gb506, 2, none⟩ = some (.int .u64 t513) ∧ w'.cell? ⟨gb506, 3, none⟩ = some (.int .i64 t514)) (ds := []) #[false, false, false, false, false, false] (by kernel_rfl) rfl rfl ⟨(blk_cell BK505.out 0).trans rfl, (blk_cell BK505.out 1).trans rfl, (blk_cell BK505.out 2).trans rfl, (blk_cell BK505.out 3).trans rfl, (blk_cell BK506.out 0).trans rfl, (blk_cell BK506.out 1).trans rfl, (blk_cell BK506.out 2).trans rfl, (blk_cell BK506.out 3).trans rfl⟩ (fun hHeld => ?_)
     generalize w81.drew = w82 at BK505 BK506 HB hHeld ⊢
     refine take_ (i := 0) (N := some 11) (v := ?_) (a' := ?_) #[true, false, false, false, false, false] rfl rfl (by kernel_rfl) (fun _ _ _ h => h) (Or.inl ⟨by rfl, ?_⟩) hHeld ?_ ?_
     rotate_left
     ·rintro w' ⟨s0, s1, s2, s3, s4, s5, s6, s7⟩
      go_simp
      with_reducible rfl
     rotate_left
     ·exact pt_
     refine take_ (i := 2) (N := some 13) (v := ?_) (a' := ?_) #[true, false, true, false, false, false] rfl rfl (by kernel_rfl) (fun _ _ _ h => h) (Or.inl ⟨by rfl, ?_⟩) hHeld ?_ ?_
     rotate_left
     ·rintro w' ⟨s0, s1, s2, s3, s4, s5, s6, s7⟩
      go_simp
      with_reducible rfl
     rotate_left
     ·exact pt_
     refine one_ (i := 1) (N := some 12) #[true, true, true, false, false, false] rfl rfl (by kernel_rfl) (by decide) (fun K hK => ?_)
     refine gs_ Tryd.func18 #[.agg #[.int .i64 t507, .bool t508, .int .u64 t509, .int .i64 t510]] ?_
     with_reducible refine (num_Sign.calls t507 t508 t509 t510 t515 _ A5.out).mono ?_
     rintro e w83 ⟨rfl, hb⟩
     refine ⟨_, rfl, ?_⟩
     replace BK505 := kq_ BK505 hb
     replace BK506 := kq_ BK506 hb
     replace HB := bq_ HB hb
     (try clear hb)
     (try clear hb2)
     (try clear hk)
     (try clear hi)
     refine hK.out _ _ ⟨(blk_cell BK505.out 0).trans rfl, (blk_cell BK505.out 1).trans rfl, (blk_cell BK505.out 2).trans rfl, (blk_cell BK505.out 3).trans rfl, (blk_cell BK506.out 0).trans rfl, (blk_cell BK506.out 1).trans rfl, (blk_cell BK506.out 2).trans rfl, (blk_cell BK506.out 3).trans rfl⟩ (fun hHeld => ?_)
     clear hK K
     refine norm_ (a' := ?_) ?_ ?_
     rotate_left
     ·show Act.put _ (some 12) _ = _
      exact pt_
     refine one_ (i := 3) (N := some 14) #[true, true, true, true, false, false] rfl rfl (by kernel_rfl) (by decide) (fun K hK => ?_)
     refine gs_ Tryd.func18 #[.agg #[.int .i64 t511, .bool t512, .int .u64 t513, .int .i64 t514]] ?_
     with_reducible refine (num_Sign.calls t511 t512 t513 t514 t516 _ A6.out).mono ?_
     rintro e w84 ⟨rfl, hb⟩
     refine ⟨_, rfl, ?_⟩
     replace BK505 := kq_ BK505 hb
     replace BK506 := kq_ BK506 hb
     replace HB := bq_ HB hb
     (try clear hb)
     (try clear hb2)
     (try clear hk)
     (try clear hi)
     refine hK.out _ _ ⟨(blk_cell BK505.out 0).trans rfl, (blk_cell BK505.out 1).trans rfl, (blk_cell BK505.out 2).trans rfl, (blk_cell BK505.out 3).trans rfl, (blk_cell BK506.out 0).trans rfl, (blk_cell BK506.out 1).trans rfl, (blk_cell BK506.out 2).trans rfl, (blk_cell BK506.out 3).trans rfl⟩ (fun hHeld => ?_)
     clear hK K
     refine norm_ (a' := ?_) ?_ ?_
     rotate_left
     ·show Act.put _ (some 14) _ = _
      exact pt_
     refine pure_ (i := 4) (N := some 5) (v := ?_) (a' := ?_) #[true, true, true, true, true, false] rfl rfl (by kernel_rfl) (fun _ _ _ h => h) (Or.inl ⟨by rfl, ?_⟩) ?_ ?_
     rotate_left
     ·intro w'
      go_simp
      with_reducible rfl
     rotate_left
     ·exact pt_
     refine pure_ (i := 5) (N := some 6) (v := ?_) (a' := ?_) #[true, true, true, true, true, true] rfl rfl (by kernel_rfl) (fun _ _ _ h => h) (Or.inl ⟨by rfl, ?_⟩) ?_ ?_
     rotate_left
     ·intro w'
      go_simp
      with_reducible rfl
     rotate_left
     ·exact pt_
     refine done_ (by kernel_rfl) ?_
     have hnb85 := NB505_506.out
     have hnc85 := NB506_505.out
     obtain ⟨hcz86_0, hcz86_1, hcz86_2, hcz86_3, hfz86_0, hfz86_1, hfz86_2, hfz86_3⟩ := c4_ BK505
     obtain ⟨hcz87_0, hcz87_1, hcz87_2, hcz87_3, hfz87_0, hfz87_1, hfz87_2, hfz87_3⟩ := c4_ BK506
     try go_wp2_with (first | ((with_reducible refine gate_callee (f := 53) rfl ?_); refine gl_ (some 26) Tryd.func53 #[.agg #[.int .i64 t507, .bool t508, .int .u64 t509, .int .i64 t510], .agg #[.int .i64 t511, .bool t512, .int .u64 t513, .int .i64 t514]] ?_; (with_reducible refine (num_farther.calls t507 t508 t509 t510 t511 t512 t513 t514 false _ A43.out).mono ?_); rintro e w88 ⟨rfl, hb⟩; refine ⟨_, rfl, ?_⟩; replace BK505 := kq_ BK505 hb; replace BK506 := kq_ BK506 hb; replace HB := bq_ HB hb; (try clear hb); (try clear hb2); (try clear hk); (try clear hi); obtain ⟨hcz89_0, hcz89_1, hcz89_2, hcz89_3, hfz89_0, hfz89_1, hfz89_2, hfz89_3⟩ := c4_ BK506; obtain ⟨hcz90_0, hcz90_1, hcz90_2, hcz90_3, hfz90_0, hfz90_1, hfz90_2, hfz90_3⟩ := c4_ BK505) | ((with_reducible refine gate_callee (f := 53) rfl ?_); refine gl_ (some 31) Tryd.func53 #[.agg #[.int .i64 t511, .bool t512, .int .u64 t513, .int .i64 t514], .agg #[.int .i64 t507, .bool t508, .int .u64 t509, .int .i64 t510]] ?_; (with_reducible refine (num_farther.calls t511 t512 t513 t514 t507 t508 t509 t510 true _ A66.out).mono ?_); rintro e w91 ⟨rfl, hb⟩; refine ⟨_, rfl, ?_⟩; replace BK505 := kq_ BK505 hb; replace BK506 := kq_ BK506 hb; replace HB := bq_ HB hb; (try clear hb); (try clear hb2); (try clear hk); (try clear hi)))
     go_ret
     exact ⟨rf_, bw_ HB.out⟩
    ·replace c67 := Bool.eq_false_iff.mpr c67
     subst c67
     have H1 : (some 0) = some r := by rw [if_neg (show ¬ (false = true) by decide)] at H; exact H
     clear H
     have H := H1
     clear H1
     obtain rfl := Option.some.inj H
     go_enter Tryd.func17, Tryd.ntmps17
     try go_wp2_with (first | ((with_reducible refine gate_dst (N := 2) rfl ?_); refine bx_ 2 #[.int .i64 a0_0, .bool a0_1, .int .u64 a0_2, .int .i64 a0_3] 30 ?_; intro gb505 hg w92 hbox hb; have BK505 := Aside0.mk (hbox); have GW505 := ge_ hg HB; have GE505 := ge_ hg HB; replace HB := bq_ HB hb; clear hb hbox hg) | ((with_reducible refine gate_dst (N := 3) rfl ?_); refine bx_ 3 #[.int .i64 a1_0, .bool a1_1, .int .u64 a1_2, .int .i64 a1_3] 30 ?_; intro gb506 hg w93 hbox hb; have BK506 := Aside0.mk (hbox); have GW506 := ge_ hg HB; have GE506 := ge_ hg HB; have NB505_506 := nb_ hg BK505; have NB506_505 := nc_ hg BK505; replace BK505 := kq_ BK505 hb; replace HB := bq_ HB hb; clear hb hbox hg))
     replace BK505 := Aside0.mk (blk_drew BK505.out)
     replace BK506 := Aside0.mk (blk_drew BK506.out)
     replace HB := Aside0.mk (below_drew1 HB.out)
     refine start_ (n := 6) (S := fun w' => w'.cell? ⟨gb505, 0, none⟩ = some (.int .i64 a0_0) ∧ w'.cell? ⟨gb505, 1, none⟩ = some (.bool a0_1) ∧ w'.cell? ⟨gb505, 2, none⟩ = some (.int .u64 a0_2) ∧ w'.cell? ⟨gb505, 3, none⟩ = some (.int .i64 a0_3) ∧ w'.cell? ⟨gb506, 0, none⟩ = some (.int .i64 a1_0) ∧ w'.cell? ⟨gb506, 1, none⟩ = some (.bool a1_1) ∧ w'.cell? ⟨gb506, 2, none⟩ = some (.int .u64 a1_2) ∧ w'.cell? ⟨gb506, 3, none⟩ = some (.int .i64 a1_3)) (ds := [4, 5]) #[false, false, false, false, false, false] (by kernel_rfl) rfl rfl ⟨(blk_cell BK505.out 0).trans rfl, (blk_cell BK505.out 1).trans rfl, (blk_cell BK505.out 2).trans rfl, (blk_cell BK505.out 3).trans rfl, (blk_cell BK506.out 0).trans rfl, (blk_cell BK506.out 1).trans rfl, (blk_cell BK506.out 2).trans rfl, (blk_cell BK506.out 3).trans rfl⟩ (fun hHeld => ?_)
     generalize w93.drew = w94 at BK505 BK506 HB hHeld ⊢
     refine take_ (i := 0) (N := some 7) (v := ?_) (a' := ?_) #[true, false, false, false, false, false] rfl rfl (by kernel_rfl) (fun _ _ _ h => h) (Or.inl ⟨by rfl, ?_⟩) hHeld ?_ ?_
     rotate_left
     ·rintro w' ⟨s0, s1, s2, s3, s4, s5, s6, s7⟩
      go_simp
      with_reducible rfl
     rotate_left
     ·exact pt_
     refine take_ (i := 2) (N := some 9) (v := ?_) (a' := ?_) #[true, false, true, false, false, false] rfl rfl (by kernel_rfl) (fun _ _ _ h => h) (Or.inl ⟨by rfl, ?_⟩) hHeld ?_ ?_
     rotate_left
     ·rintro w' ⟨s0, s1, s2, s3, s4, s5, s6, s7⟩
      go_simp
      with_reducible rfl
     rotate_left
     ·exact pt_
     refine one_ (i := 1) (N := some 8) #[true, true, true, false, false, false] rfl rfl (by kernel_rfl) (by decide) (fun K hK => ?_)
     refine gs_ Tryd.func52 #[.agg #[.int .i64 a0_0, .bool a0_1, .int .u64 a0_2, .int .i64 a0_3]] ?_
     with_reducible refine (num_fair.calls a0_0 a0_1 a0_2 a0_3 t507 t508 t509 t510 _ A3.out).mono ?_
     rintro e w95 ⟨rfl, hb⟩
     refine ⟨_, rfl, ?_⟩
     replace BK505 := kq_ BK505 hb
     replace BK506 := kq_ BK506 hb
     replace HB := bq_ HB hb
     (try clear hb)
     (try clear hb2)
     (try clear hk)
     (try clear hi)
     refine hK.out _ _ ⟨(blk_cell BK505.out 0).trans rfl, (blk_cell BK505.out 1).trans rfl, (blk_cell BK505.out 2).trans rfl, (blk_cell BK505.out 3).trans rfl, (blk_cell BK506.out 0).trans rfl, (blk_cell BK506.out 1).trans rfl, (blk_cell BK506.out 2).trans rfl, (blk_cell BK506.out 3).trans rfl⟩ (fun hHeld => ?_)
     clear hK K
     refine norm_ (a' := ?_) ?_ ?_
     rotate_left
     ·show Act.put _ (some 8) _ = _
      exact pt_
     refine one_ (i := 3) (N := some 10) #[true, true, true, true, false, false] rfl rfl (by kernel_rfl) (by decide) (fun K hK => ?_)
     refine gs_ Tryd.func52 #[.agg #[.int .i64 a1_0, .bool a1_1, .int .u64 a1_2, .int .i64 a1_3]] ?_
     with_reducible refine (num_fair.calls a1_0 a1_1 a1_2 a1_3 t511 t512 t513 t514 _ A4.out).mono ?_
     rintro e w96 ⟨rfl, hb⟩
     refine ⟨_, rfl, ?_⟩
     replace BK505 := kq_ BK505 hb
     replace BK506 := kq_ BK506 hb
     replace HB := bq_ HB hb
     (try clear hb)
     (try clear hb2)
     (try clear hk)
     (try clear hi)
     refine hK.out _ _ ⟨(blk_cell BK505.out 0).trans rfl, (blk_cell BK505.out 1).trans rfl, (blk_cell BK505.out 2).trans rfl, (blk_cell BK505.out 3).trans rfl, (blk_cell BK506.out 0).trans rfl, (blk_cell BK506.out 1).trans rfl, (blk_cell BK506.out 2).trans rfl, (blk_cell BK506.out 3).trans rfl⟩ (fun hHeld => ?_)
     clear hK K
     refine norm_ (a' := ?_) ?_ ?_
     rotate_left
     ·show Act.put _ (some 10) _ = _
      exact pt_
     refine last_ (i := 4) (N := none) #[true, true, true, true, true, false] rfl rfl (by kernel_rfl) (by decide) (fun K hK => ?_)
     have hs97 : w96.cell? ⟨gb505, 0, none⟩ = some (.int .i64 a0_0) := (blk_cell BK505.out 0).trans rfl
     have hfs97 := fz_ BK505 0
     have hns97_1 := NB506_505.out
     have hms97_1 := NB505_506.out
     have hs98 : w96.cell? ⟨gb505, 1, none⟩ = some (.bool a0_1) := (blk_cell BK505.out 1).trans rfl
     have hfs98 := fz_ BK505 1
     have hns98_1 := NB506_505.out
     have hms98_1 := NB505_506.out
     have hs99 : w96.cell? ⟨gb505, 2, none⟩ = some (.int .u64 a0_2) := (blk_cell BK505.out 2).trans rfl
     have hfs99 := fz_ BK505 2
     have hns99_1 := NB506_505.out
     have hms99_1 := NB505_506.out
     have hs100 : w96.cell? ⟨gb505, 3, none⟩ = some (.int .i64 a0_3) := (blk_cell BK505.out 3).trans rfl
     have hfs100 := fz_ BK505 3
     have hns100_1 := NB506_505.out
     have hms100_1 := NB505_506.out
     refine skip_ (w1 := ?_) (by rfl) rfl ?_ ?_
     rotate_left
     ·go_simp
      rfl
     refine hK.out _ _ ?_
     clear hK K
     refine last_ (i := 5) (N := none) #[true, true, true, true, true, true] rfl rfl (by kernel_rfl) (by decide) (fun K hK => ?_)
     have hs101 : w96.cell? ⟨gb506, 0, none⟩ = some (.int .i64 a1_0) := (blk_cell BK506.out 0).trans rfl
     have hfs101 := fz_ BK506 0
     have hns101_0 := NB505_506.out
     have hms101_0 := NB506_505.out
     have hs102 : w96.cell? ⟨gb506, 1, none⟩ = some (.bool a1_1) := (blk_cell BK506.out 1).trans rfl
     have hfs102 := fz_ BK506 1
     have hns102_0 := NB505_506.out
     have hms102_0 := NB506_505.out
     have hs103 : w96.cell? ⟨gb506, 2, none⟩ = some (.int .u64 a1_2) := (blk_cell BK506.out 2).trans rfl
     have hfs103 := fz_ BK506 2
     have hns103_0 := NB505_506.out
     have hms103_0 := NB506_505.out
     have hs104 : w96.cell? ⟨gb506, 3, none⟩ = some (.int .i64 a1_3) := (blk_cell BK506.out 3).trans rfl
     have hfs104 := fz_ BK506 3
     have hns104_0 := NB505_506.out
     have hms104_0 := NB506_505.out
     refine skip_ (w1 := ?_) (by rfl) rfl ?_ ?_
     rotate_left
     ·go_simp
      rfl
     refine hK.out _ _ ?_
     clear hK K
     refine done_ (by kernel_rfl) ?_
     try go_wp2
     have n0_ : Aside0 (((((((((w96.setCell ⟨gb505, 0, none⟩ (.int .i64 t507)).setCell ⟨gb505, 1, none⟩ (.bool t508)).setCell ⟨gb505, 2, none⟩ (.int .u64 t509)).setCell ⟨gb505, 3, none⟩ (.int .i64 t510)).setCell ⟨gb506, 0, none⟩ (.int .i64 t511)).setCell ⟨gb506, 1, none⟩ (.bool t512)).setCell ⟨gb506, 2, none⟩ (.int .u64 t513)).setCell ⟨gb506, 3, none⟩ (.int .i64 t514)).heap[gb505]? = some (.cells #[.int .i64 t507, .bool t508, .int .u64 t509, .int .i64 t510] 30 (0, 0))) := ⟨by refine kb_ ?_; refine bf_ NB505_506 ?_; refine bf_ NB505_506 ?_; refine bf_ NB505_506 ?_; refine bf_ NB505_506 ?_; refine bp_ #[.int .i64 t507, .bool t508, .int .u64 t509, .int .i64 a0_3] 3 ?_; refine bp_ #[.int .i64 t507, .bool t508, .int .u64 a0_2, .int .i64 a0_3] 2 ?_; refine bp_ #[.int .i64 t507, .bool a0_1, .int .u64 a0_2, .int .i64 a0_3] 1 ?_; refine bp_ #[.int .i64 a0_0, .bool a0_1, .int .u64 a0_2, .int .i64 a0_3] 0 ?_; exact BK505.out⟩
     have n1_ : Aside0 (((((((((w96.setCell ⟨gb505, 0, none⟩ (.int .i64 t507)).setCell ⟨gb505, 1, none⟩ (.bool t508)).setCell ⟨gb505, 2, none⟩ (.int .u64 t509)).setCell ⟨gb505, 3, none⟩ (.int .i64 t510)).setCell ⟨gb506, 0, none⟩ (.int .i64 t511)).setCell ⟨gb506, 1, none⟩ (.bool t512)).setCell ⟨gb506, 2, none⟩ (.int .u64 t513)).setCell ⟨gb506, 3, none⟩ (.int .i64 t514)).heap[gb506]? = some (.cells #[.int .i64 t511, .bool t512, .int .u64 t513, .int .i64 t514] 30 (0, 0))) := ⟨by refine kb_ ?_; refine bp_ #[.int .i64 t511, .bool t512, .int .u64 t513, .int .i64 a1_3] 3 ?_; refine bp_ #[.int .i64 t511, .bool t512, .int .u64 a1_2, .int .i64 a1_3] 2 ?_; refine bp_ #[.int .i64 t511, .bool a1_1, .int .u64 a1_2, .int .i64 a1_3] 1 ?_; refine bp_ #[.int .i64 a1_0, .bool a1_1, .int .u64 a1_2, .int .i64 a1_3] 0 ?_; refine bf_ NB506_505 ?_; refine bf_ NB506_505 ?_; refine bf_ NB506_505 ?_; refine bf_ NB506_505 ?_; exact BK506.out⟩
     have n2_ : Aside0 (Below w.heap.size w ((((((((w96.setCell ⟨gb505, 0, none⟩ (.int .i64 t507)).setCell ⟨gb505, 1, none⟩ (.bool t508)).setCell ⟨gb505, 2, none⟩ (.int .u64 t509)).setCell ⟨gb505, 3, none⟩ (.int .i64 t510)).setCell ⟨gb506, 0, none⟩ (.int .i64 t511)).setCell ⟨gb506, 1, none⟩ (.bool t512)).setCell ⟨gb506, 2, none⟩ (.int .u64 t513)).setCell ⟨gb506, 3, none⟩ (.int .i64 t514))) := ⟨bw_ HB.out⟩
     (try clear BK505)
     (try clear BK506)
     (try clear HB)
     generalize ((((((((w96.setCell ⟨gb505, 0, none⟩ (.int .i64 t507)).setCell ⟨gb505, 1, none⟩ (.bool t508)).setCell ⟨gb505, 2, none⟩ (.int .u64 t509)).setCell ⟨gb505, 3, none⟩ (.int .i64 t510)).setCell ⟨gb506, 0, none⟩ (.int .i64 t511)).setCell ⟨gb506, 1, none⟩ (.bool t512)).setCell ⟨gb506, 2, none⟩ (.int .u64 t513)).setCell ⟨gb506, 3, none⟩ (.int .i64 t514)) = w105 at n0_ n1_ n2_ ⊢
     have BK505 := n0_
     have BK506 := n1_
     have HB := n2_
     clear n0_ n1_ n2_
     replace BK505 := Aside0.mk (blk_drew BK505.out)
     replace BK506 := Aside0.mk (blk_drew BK506.out)
     replace HB := Aside0.mk (below_drew1 HB.out)
     refine start_ (n := 6) (S := fun w' => w'.cell? ⟨gb505, 0, none⟩ = some (.int .i64 t507) ∧ w'.cell? ⟨gb505, 1, none⟩ = some (.bool t508) ∧ w'.cell? ⟨gb505, 2, none⟩ = some (.int .u64 t509) ∧ w'.cell? ⟨gb505, 3, none⟩ = some (.int .i64 t510) ∧ w'.cell? ⟨gb506, 0, none⟩ = some (.int .i64 t511) ∧ w'.cell? ⟨gb506, 1, none⟩ = some (.bool t512) ∧ w'.cell? ⟨gb506, 2, none⟩ = some (.int .u64 t513) ∧ w'.cell? ⟨gb506, 3, none⟩ = some (.int .i64 t514)) (ds := []) #[false, false, false, false, false, false] (by kernel_rfl) rfl rfl ⟨(blk_cell BK505.out 0).trans rfl, (blk_cell BK505.out 1).trans rfl, (blk_cell BK505.out 2).trans rfl, (blk_cell BK505.out 3).trans rfl, (blk_cell BK506.out 0).trans rfl, (blk_cell BK506.out 1).trans rfl, (blk_cell BK506.out 2).trans rfl, (blk_cell BK506.out 3).trans rfl⟩ (fun hHeld => ?_)
     generalize w105.drew = w106 at BK505 BK506 HB hHeld ⊢
     refine take_ (i := 0) (N := some 11) (v := ?_) (a' := ?_) #[true, false, false, false, false, false] rfl rfl (by kernel_rfl) (fun _ _ _ h => h) (Or.inl ⟨by rfl, ?_⟩) hHeld ?_ ?_
     rotate_left
     ·rintro w' ⟨s0, s1, s2, s3, s4, s5, s6, s7⟩
      go_simp
      with_reducible rfl
     rotate_left
     ·exact pt_
     refine take_ (i := 2) (N := some 13) (v := ?_) (a' := ?_) #[true, false, true, false, false, false] rfl rfl (by kernel_rfl) (fun _ _ _ h => h) (Or.inl ⟨by rfl, ?_⟩) hHeld ?_ ?_
     rotate_left
     ·rintro w' ⟨s0, s1, s2, s3, s4, s5, s6, s7⟩
      go_simp
      with_reducible rfl
     rotate_left
     ·exact pt_
     refine one_ (i := 1) (N := some 12) #[true, true, true, false, false, false] rfl rfl (by kernel_rfl) (by decide) (fun K hK => ?_)
     refine gs_ Tryd.func18 #[.agg #[.int .i64 t507, .bool t508, .int .u64 t509, .int .i64 t510]] ?_
     with_reducible refine (num_Sign.calls t507 t508 t509 t510 t515 _ A5.out).mono ?_
     rintro e w107 ⟨rfl, hb⟩
     refine ⟨_, rfl, ?_⟩
     replace BK505 := kq_ BK505 hb
     replace BK506 := kq_ BK506 hb
     replace HB := bq_ HB hb
     (try clear hb)
     (try clear hb2)
     (try clear hk)
     (try clear hi)
     refine hK.out _ _ ⟨(blk_cell BK505.out 0).trans rfl, (blk_cell BK505.out 1).trans rfl, (blk_cell BK505.out 2).trans rfl, (blk_cell BK505.out 3).trans rfl, (blk_cell BK506.out 0).trans rfl, (blk_cell BK506.out 1).trans rfl, (blk_cell BK506.out 2).trans rfl, (blk_cell BK506.out 3).trans rfl⟩ (fun hHeld => ?_)
     clear hK K
     refine norm_ (a' := ?_) ?_ ?_
     rotate_left
     ·show Act.put _ (some 12) _ = _
      exact pt_
     refine one_ (i := 3) (N := some 14) #[true, true, true, true, false, false] rfl rfl (by kernel_rfl) (by decide) (fun K hK => ?_)
     refine gs_ Tryd.func18 #[.agg #[.int .i64 t511, .bool t512, .int .u64 t513, .int .i64 t514]] ?_
     with_reducible refine (num_Sign.calls t511 t512 t513 t514 t516 _ A6.out).mono ?_
     rintro e w108 ⟨rfl, hb⟩
     refine ⟨_, rfl, ?_⟩
     replace BK505 := kq_ BK505 hb
     replace BK506 := kq_ BK506 hb
     replace HB := bq_ HB hb
     (try clear hb)
     (try clear hb2)
     (try clear hk)
     (try clear hi)
     refine hK.out _ _ ⟨(blk_cell BK505.out 0).trans rfl, (blk_cell BK505.out 1).trans rfl, (blk_cell BK505.out 2).trans rfl, (blk_cell BK505.out 3).trans rfl, (blk_cell BK506.out 0).trans rfl, (blk_cell BK506.out 1).trans rfl, (blk_cell BK506.out 2).trans rfl, (blk_cell BK506.out 3).trans rfl⟩ (fun hHeld => ?_)
     clear hK K
     refine norm_ (a' := ?_) ?_ ?_
     rotate_left
     ·show Act.put _ (some 14) _ = _
      exact pt_
     refine pure_ (i := 4) (N := some 5) (v := ?_) (a' := ?_) #[true, true, true, true, true, false] rfl rfl (by kernel_rfl) (fun _ _ _ h => h) (Or.inl ⟨by rfl, ?_⟩) ?_ ?_
     rotate_left
     ·intro w'
      go_simp
      with_reducible rfl
     rotate_left
     ·exact pt_
     refine pure_ (i := 5) (N := some 6) (v := ?_) (a' := ?_) #[true, true, true, true, true, true] rfl rfl (by kernel_rfl) (fun _ _ _ h => h) (Or.inl ⟨by rfl, ?_⟩) ?_ ?_
     rotate_left
     ·intro w'
      go_simp
      with_reducible rfl
     rotate_left
     ·exact pt_
     refine done_ (by kernel_rfl) ?_
     have hnb109 := NB505_506.out
     have hnc109 := NB506_505.out
     obtain ⟨hcz110_0, hcz110_1, hcz110_2, hcz110_3, hfz110_0, hfz110_1, hfz110_2, hfz110_3⟩ := c4_ BK505
     obtain ⟨hcz111_0, hcz111_1, hcz111_2, hcz111_3, hfz111_0, hfz111_1, hfz111_2, hfz111_3⟩ := c4_ BK506
     try go_wp2_with (first | ((with_reducible refine gate_callee (f := 53) rfl ?_); refine gl_ (some 26) Tryd.func53 #[.agg #[.int .i64 t507, .bool t508, .int .u64 t509, .int .i64 t510], .agg #[.int .i64 t511, .bool t512, .int .u64 t513, .int .i64 t514]] ?_; (with_reducible refine (num_farther.calls t507 t508 t509 t510 t511 t512 t513 t514 false _ A43.out).mono ?_); rintro e w112 ⟨rfl, hb⟩; refine ⟨_, rfl, ?_⟩; replace BK505 := kq_ BK505 hb; replace BK506 := kq_ BK506 hb; replace HB := bq_ HB hb; (try clear hb); (try clear hb2); (try clear hk); (try clear hi); obtain ⟨hcz113_0, hcz113_1, hcz113_2, hcz113_3, hfz113_0, hfz113_1, hfz113_2, hfz113_3⟩ := c4_ BK506; obtain ⟨hcz114_0, hcz114_1, hcz114_2, hcz114_3, hfz114_0, hfz114_1, hfz114_2, hfz114_3⟩ := c4_ BK505) | ((with_reducible refine gate_callee (f := 53) rfl ?_); refine gl_ (some 31) Tryd.func53 #[.agg #[.int .i64 t511, .bool t512, .int .u64 t513, .int .i64 t514], .agg #[.int .i64 t507, .bool t508, .int .u64 t509, .int .i64 t510]] ?_; (with_reducible refine (num_farther.calls t511 t512 t513 t514 t507 t508 t509 t510 false _ A66.out).mono ?_); rintro e w115 ⟨rfl, hb⟩; refine ⟨_, rfl, ?_⟩; replace BK505 := kq_ BK505 hb; replace BK506 := kq_ BK506 hb; replace HB := bq_ HB hb; (try clear hb); (try clear hb2); (try clear hk); (try clear hi)))
     go_ret
     exact ⟨rf_, bw_ HB.out⟩

end Go.Proofs.YtkemnoejpbknhaaDoor.PA
