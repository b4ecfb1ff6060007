-- Laid by this work's own program; Lean checks it.
import Derived.Test.YtkemnoejpbknhaaDoorPAx0
import Derived.Test.YtkemnoejpbknhaaDoorPAx2
import Derived.Test.YtkemnoejpbknhaaDoorPAx13
import Derived.Test.YtkemnoejpbknhaaDoorPAx19
namespace Go.Proofs.YtkemnoejpbknhaaDoor.PA
open Go.RowKit Go.Proofs.YtkemnoejpbknhaaDoorW.PrintWords Go.Proofs.YtkemnoejpbknhaaDoorW.PrintLast Go.Proofs.YtkemnoejpbknhaaDoorW.PrintMore
attribute [local go_sem] max2_int min2_int max_two min_two max_three min_three max_four min_four   -- for this text's walks alone
set_option linter.unusedVariables false
set_option linter.unusedSimpArgs false

attribute [local go_sem ↓ high] isSome_set_
/-! ### pelorusref05_limbs: function 61 -/
set_option maxHeartbeats 8000000 in
set_option maxRecDepth 100000 in
theorem pelorusref05_limbs.calls (a0 : Int) (r : List Int) (w : World) (h : pelorusref05_limbs.f a0 = some r) :
  Calls Tryd.prog 61 #[.int .u64 a0] w fun e w' => ∃ v0_ : Value, e = .returned (v0_) ∧ Kd.R (Kd.int .u32) 53 w' w.heap.size (fun _ => True) v0_ r ∧ Below w.heap.size w w' := by
 have HB := Aside0.mk (Below.refl w.heap.size w)
 have H : (some (([(Int.tmod a0 4294967296) % 4294967296, (IntKind.u64.wrap (Int.tdiv a0 4294967296)) % 4294967296] : List Int))) = some r := h
 clear h
 obtain ⟨y830, hy830⟩ : ∃ y_ : List Int, y_ = (([(Int.tmod a0 4294967296) % 4294967296, (IntKind.u64.wrap (Int.tdiv a0 4294967296)) % 4294967296] : List Int)) := ⟨_, rfl⟩
 replace H : (some y830) = some r := by first | (rw [hy830]; with_reducible exact H) | (have H2_ := (Option.bind_some _ _).symm.trans H; rw [hy830]; with_reducible exact H2_) | (have H2_ := (Option.bind_some _ _).symm.trans H; with_reducible exact H2_) | with_reducible exact H | (rw [hy830]; exact H) | exact H
 have Ny830 := Aside0.mk hy830
 clear hy830
 obtain rfl := Option.some.inj H
 go_enter Tryd.func61, Tryd.ntmps61
 go_wp2_with (first | ((with_reducible refine gate_dst (N := 9) rfl ?_); refine Kd.R_lit (Kd.int .u32) _ 53 ?hg (N := 9) ?hd (xs := ([(Int.tmod a0 4294967296) % 4294967296, (IntKind.u64.wrap (Int.tdiv a0 4294967296)) % 4294967296] : List Int)) (inner := [.int .u32 ((Int.tmod a0 4294967296) % 4294967296), .int .u32 ((IntKind.u64.wrap (Int.tdiv a0 4294967296)) % 4294967296)]) (ok := fun _ => True) (okp := fun _ => True) ?hr ?hp (fun _ hk => hk) trivial (Below.refl _ _) (Nat.le_refl _) (by simp) ?_; (case hd => rfl); (case hg => rfl); (case hr => first | (go_simp; done) | (go_simp; rfl)); (case hp => exact (Reps.one (show Kd.M (Kd.int .u32) _ _ _ ((Int.tmod a0 4294967296) % 4294967296) [.int .u32 ((Int.tmod a0 4294967296) % 4294967296)] from rfl) (Reps.one (show Kd.M (Kd.int .u32) _ _ _ ((IntKind.u64.wrap (Int.tdiv a0 4294967296)) % 4294967296) [.int .u32 ((IntKind.u64.wrap (Int.tdiv a0 4294967296)) % 4294967296)] from rfl) (Reps.none _ _)))); intro v831 w2 ho3 hb hg_ hnew_; clear hg_ hnew_; (first | rw [← Ny830.out] at ho3 | (simp only [Int.reduceToNat] at ho3; rw [← Ny830.out] at ho3)); have HO832 := Aside0.mk (Kd.R_lower ho3 (below_size (bw_ HB.out))); replace HB := bq_ HB hb; clear hb ho3))
 go_ret
 exact ⟨_, rf_, by (with_reducible repeat (first | apply Kd.R_alloc | apply Kd.R_drewN | apply Kd.R_drew)); exact HO832.out, bw_ HB.out⟩

/-! ### pelorusref05_Exact: function 26 -/
theorem pelorusref05_Exact.tab6 : rtab .any (opsOf Tryd.f26 6) = pelorusref05_Exact.T6 := by kernel_rfl
theorem pelorusref05_Exact.bits6 : waitsOk pelorusref05_Exact.T6.2 pelorusref05_Exact.B6 = true := by kernel_rfl
set_option maxHeartbeats 8000000 in
set_option maxRecDepth 100000 in
theorem pelorusref05_Exact.calls (k : Nat) (a0_0 : Int) (a0_1 : Bool) (a0_2 : Int) (a0_3 : Int) (r1 : Bool) (r2 : List Int) (r3 : Int) (r4 : Bool) (w : World) (h : pelorusref05_Exact.f k a0_0 a0_1 a0_2 a0_3 = some (r1, r2, r3, r4)) :
  Calls Tryd.prog 26 #[.agg #[.int .i64 a0_0, .bool a0_1, .int .u64 a0_2, .int .i64 a0_3]] w fun e w' => ∃ v1_ : Value, e = .returned (.tuple #[.agg #[.bool r1, v1_, .int .i64 r3], .bool r4]) ∧ Kd.R (Kd.int .u32) 53 w' w.heap.size (fun _ => True) v1_ r2 ∧ Below w.heap.size w w' := by
 have hu30 := Tryd.underlying30
 have hu26 := Tryd.underlying26
 have HB := Aside0.mk (Below.refl w.heap.size w)
 have H : ((pelorusref05_May.f a0_0 a0_1 a0_2 a0_3).bind fun t835 => (if t835 = true then (pelorusref05_Exact.j0 k (a0_0 == 2) a0_0 a0_1 a0_2 a0_3) else (pelorusref05_Exact.j0 k true a0_0 a0_1 a0_2 a0_3))) = some (r1, r2, r3, r4) := h
 clear h
 replace H := Option.bind_eq_some_iff.mp H
 obtain ⟨t835, A20, H⟩ := H
 (try dsimp only at H)
 have A2 := Aside0.mk A20
 clear A20
 have HC3 := Aside0.mk H
 clear H
 go_enter Tryd.func26, Tryd.ntmps26
 go_upto_region 2 with (first | ((with_reducible refine gate_dst (N := 1) rfl ?_); refine bx_ 1 #[.int .i64 a0_0, .bool a0_1, .int .u64 a0_2, .int .i64 a0_3] 30 ?_; intro gb833 hg w4 hbox hb; have BK833 := Aside0.mk (hbox); have GW833 := ge_ hg HB; have GE833 := ge_ hg HB; replace HB := bq_ HB hb; clear hb hbox hg) | ((with_reducible refine gate_dst (N := 2) rfl ?_); refine bx_ 2 #[.bool false, .slice none 0 0, .int .i64 0] 26 ?_; intro gb834 hg w5 hbox hb; have BK834 := Aside0.mk (hbox); have GW834 := ge_ hg HB; have GE834 := ge_ hg HB; have NB833_834 := nb_ hg BK833; have NB834_833 := nc_ hg BK833; replace BK833 := kq_ BK833 hb; replace HB := bq_ HB hb; clear hb hbox hg; have hnb6 := NB833_834.out; have hnc6 := NB834_833.out; obtain ⟨hcz7_0, hcz7_1, hcz7_2, hcz7_3, hfz7_0, hfz7_1, hfz7_2, hfz7_3⟩ := c4_ BK833) | ((with_reducible refine gate_callee (f := 28) rfl ?_); refine gl_ (some 6) Tryd.func28 #[.agg #[.int .i64 a0_0, .bool a0_1, .int .u64 a0_2, .int .i64 a0_3]] ?_; (with_reducible refine (pelorusref05_May.calls a0_0 a0_1 a0_2 a0_3 t835 _ A2.out).mono ?_); rintro e w8 ⟨rfl, hb⟩; refine ⟨_, rfl, ?_⟩; replace BK833 := kq_ BK833 hb; replace BK834 := kq_ BK834 hb; replace HB := bq_ HB hb; (try clear hb); (try clear hb2); (try clear hk); (try clear hi)))
 (try simp only [Act.put, List.setIfInBounds_toArray, List.set_cons_zero, List.set_cons_succ])
 go_cut [13] (fun v13 wc => ∃ (kq : Nat) (x13_2 : Bool), v13 = .bool x13_2 ∧ Aside0 (pelorusref05_Exact.j0 kq x13_2 a0_0 a0_1 a0_2 a0_3 = some (r1, r2, r3, r4)) ∧ Aside0 (kq ≤ k) ∧ Aside0 (wc.heap[gb833]? = some (.cells #[.int .i64 a0_0, .bool a0_1, .int .u64 a0_2, .int .i64 a0_3] 30 (0, 0))) ∧ Aside0 (wc.heap[gb834]? = some (.cells #[.bool false, (.slice none 0 0), .int .i64 0] 26 (0, 0))) ∧ Aside0 (Below w.heap.size w wc))
 case first =>
  have H := HC3.out
  clear HC3
  by_cases c9 : t835 = true
  ·subst c9
   have H1 : (pelorusref05_Exact.j0 k (a0_0 == 2) a0_0 a0_1 a0_2 a0_3) = some (r1, r2, r3, r4) := by rw [if_pos rfl] at H; exact H
   clear H
   have H := H1
   clear H1
   have H' := Aside0.mk H
   clear H
   have hnb10 := NB833_834.out
   have hnc10 := NB834_833.out
   obtain ⟨hcz11_0, hcz11_1, hcz11_2, hcz11_3, hfz11_0, hfz11_1, hfz11_2, hfz11_3⟩ := c4_ BK833
   go_wp2
   go_meet
   case rel => exact ⟨_, ((a0_0 == 2)), (by first | rfl | (simp; done) | (simp [*]; done)), H', ⟨by first | omega | exact Nat.le_refl _⟩, ⟨kb_ BK833.out⟩, ⟨kb_ BK834.out⟩, ⟨bw_ HB.out⟩⟩
  ·replace c9 := Bool.eq_false_iff.mpr c9
   subst c9
   have H1 : (pelorusref05_Exact.j0 k true a0_0 a0_1 a0_2 a0_3) = some (r1, r2, r3, r4) := by rw [if_neg (show ¬ (false = true) by decide)] at H; exact H
   clear H
   have H := H1
   clear H1
   have H' := Aside0.mk H
   clear H
   go_wp2
   go_meet
   case rel => exact ⟨_, (true), (by first | rfl | (simp; done) | (simp [*]; done)), H', ⟨by first | omega | exact Nat.le_refl _⟩, ⟨kb_ BK833.out⟩, ⟨kb_ BK834.out⟩, ⟨bw_ HB.out⟩⟩
 case rest =>
  clear HC3
  try clear c1
  try clear c2
  try clear p2
  try clear c6
  try clear c9
  try clear c10
  try clear hcz11_0 hcz11_1 hcz11_2 hcz11_3
  try clear hcz7_0 hcz7_1 hcz7_2 hcz7_3
  try clear hfz11_0 hfz11_1 hfz11_2 hfz11_3
  try clear hfz7_0 hfz7_1 hfz7_2 hfz7_3
  obtain ⟨kq, x13_2, rfl, HA, HJ2, BK833, BK834, HB⟩ := hcut
  cases kq with
  | zero => exact absurd HA.out (by simp [pelorusref05_Exact.j0])
  | succ kj2 =>
   have H := HA.out
   clear HA
   simp only [pelorusref05_Exact.j0] at H
   by_cases c12 : x13_2 = true
   ·subst c12
    have H1 : (some (false, ([] : List Int), 0, false)) = some (r1, r2, r3, r4) := by rw [if_pos rfl] at H; exact H
    clear H
    have H := H1
    clear H1
    simp only [Option.some.injEq, Prod.mk.injEq] at H
    obtain ⟨rfl, rfl, rfl, rfl⟩ := H
    have hnb13 := NB834_833.out
    have hnc13 := NB833_834.out
    obtain ⟨hcz14_0, hcz14_1, hcz14_2, hfz14_0, hfz14_1, hfz14_2⟩ := c3_ BK834
    go_wp2
    refine bodyPost_ret (results_ct rfl _ _ gb834 26 #[.bool false, .slice none 0 0, .int .i64 0] (0, 0) _ rfl (by refine kb_ ?_; refine bp_ #[.bool false, .slice none 0 0, .int .i64 0] 2 ?_; refine bp_ #[.bool false, .slice none 0 0, .int .i64 0] 1 ?_; refine bp_ #[.bool false, .slice none 0 0, .int .i64 0] 0 ?_; exact BK834.out) Tryd.underlying26 rfl (by kernel_rfl)) rfl ?_
    exact ⟨_, rf_, by first | exact Kd.R_nil _ _ _ _ _ | exact Kd.N_nil _ _ _ _ _ | exact Kd.V_nil _ _ _ _ _ | exact Kd.Q_nil _ _ _ _ _ | exact Kd.S_nil _ _ _ _ _, bw_ HB.out⟩
   ·replace c12 := Bool.eq_false_iff.mpr c12
    subst c12
    have H1 : (if a0_0 = 0 then (some (false, ([] : List Int), 0, true)) else ((pelorusref05_limbs.f a0_2).bind fun t836 => ((pelorusref02_Make.f kj2 a0_1 t836).bind fun bt839 => ((pelorusref03_Make.f kj2 bt839.1 bt839.2 a0_3).bind fun bt843 => (some (bt843.1, bt843.2.1, bt843.2.2, true)))))) = some (r1, r2, r3, r4) := by rw [if_neg (show ¬ (false = true) by decide)] at H; exact H
    clear H
    have H := H1
    clear H1
    by_cases c15 : a0_0 = 0
    ·rw [if_pos c15] at H
     have c15b0 : (a0_0 == 0) = true := beq_iff_eq.mpr c15
     have c15b1 : (a0_0 != 0) = false := bne_eq_false_iff_eq.mpr c15
     clear c15
     simp only [Option.some.injEq, Prod.mk.injEq] at H
     obtain ⟨rfl, rfl, rfl, rfl⟩ := H
     have hnb16 := NB833_834.out
     have hnc16 := NB834_833.out
     obtain ⟨hcz17_0, hcz17_1, hcz17_2, hcz17_3, hfz17_0, hfz17_1, hfz17_2, hfz17_3⟩ := c4_ BK833
     obtain ⟨hcz18_0, hcz18_1, hcz18_2, hfz18_0, hfz18_1, hfz18_2⟩ := c3_ BK834
     go_wp2
     refine bodyPost_ret (results_ct rfl _ _ gb834 26 #[.bool false, .slice none 0 0, .int .i64 0] (0, 0) _ rfl (by refine kb_ ?_; refine bp_ #[.bool false, .slice none 0 0, .int .i64 0] 2 ?_; refine bp_ #[.bool false, .slice none 0 0, .int .i64 0] 1 ?_; refine bp_ #[.bool false, .slice none 0 0, .int .i64 0] 0 ?_; exact BK834.out) Tryd.underlying26 rfl (by kernel_rfl)) rfl ?_
     exact ⟨_, rf_, by first | exact Kd.R_nil _ _ _ _ _ | exact Kd.N_nil _ _ _ _ _ | exact Kd.V_nil _ _ _ _ _ | exact Kd.Q_nil _ _ _ _ _ | exact Kd.S_nil _ _ _ _ _, bw_ HB.out⟩
    ·rw [if_neg c15] at H
     have c15b0 : (a0_0 == 0) = false := beq_eq_false_iff_ne.mpr c15
     have c15b1 : (a0_0 != 0) = true := bne_iff_ne.mpr c15
     replace H := Option.bind_eq_some_iff.mp H
     obtain ⟨t836, A190, H⟩ := H
     (try dsimp only at H)
     have A19 := Aside0.mk A190
     clear A190
     replace H := Option.bind_eq_some_iff.mp H
     obtain ⟨⟨t839, t840⟩, A200, H⟩ := H
     (try dsimp only at H)
     have A20 := Aside0.mk A200
     clear A200
     replace H := Option.bind_eq_some_iff.mp H
     obtain ⟨⟨t843, t844, t847⟩, A210, H⟩ := H
     (try dsimp only at H)
     have A21 := Aside0.mk A210
     clear A210
     simp only [Option.some.injEq, Prod.mk.injEq] at H
     obtain ⟨rfl, rfl, rfl, rfl⟩ := H
     have hnb22 := NB833_834.out
     have hnc22 := NB834_833.out
     obtain ⟨hcz23_0, hcz23_1, hcz23_2, hcz23_3, hfz23_0, hfz23_1, hfz23_2, hfz23_3⟩ := c4_ BK833
     try go_wp2
     replace BK833 := Aside0.mk (blk_drew BK833.out)
     replace BK834 := Aside0.mk (blk_drew BK834.out)
     replace HB := Aside0.mk (below_drew1 HB.out)
     refine start_ (n := 11) (S := fun w' => w'.cell? ⟨gb833, 0, none⟩ = some (.int .i64 a0_0) ∧ w'.cell? ⟨gb833, 1, none⟩ = some (.bool a0_1) ∧ w'.cell? ⟨gb833, 2, none⟩ = some (.int .u64 a0_2) ∧ w'.cell? ⟨gb833, 3, none⟩ = some (.int .i64 a0_3)) (ds := []) #[false, false, false, false, false, false, false, false, false, false, false] (by kernel_rfl) rfl rfl ⟨(blk_cell BK833.out 0).trans rfl, (blk_cell BK833.out 1).trans rfl, (blk_cell BK833.out 2).trans rfl, (blk_cell BK833.out 3).trans rfl⟩ (fun hHeld => ?_); refine with_tabW pelorusref05_Exact.tab6 pelorusref05_Exact.bits6 (fun HT_ HW_ => ?_)
     generalize wc.drew = w24 at BK833 BK834 HB hHeld ⊢
     refine pure_ (i := 0) (N := some 19) (v := ?_) (a' := ?_) #[true, false, false, false, false, false, false, false, false, false, false] rfl rfl (any_of HT_.out (by kernel_rfl)) (fun _ _ _ h => h) (Or.inl ⟨by rfl, ?_⟩) ?_ ?_
     rotate_left
     ·intro w'
      go_simp
      with_reducible rfl
     rotate_left
     ·exact pt_
     refine pure_ (i := 2) (N := some 21) (v := ?_) (a' := ?_) #[true, false, true, false, false, false, false, false, false, false, false] rfl rfl (any_of HT_.out (by kernel_rfl)) (fun _ _ _ h => h) (Or.inl ⟨by rfl, ?_⟩) ?_ ?_
     rotate_left
     ·intro w'
      go_simp
      with_reducible rfl
     rotate_left
     ·exact pt_
     refine pure_ (i := 6) (N := some 25) (v := ?_) (a' := ?_) #[true, false, true, false, false, false, true, false, false, false, false] rfl rfl (any_of HT_.out (by kernel_rfl)) (fun _ _ _ h => h) (Or.inl ⟨by rfl, ?_⟩) ?_ ?_
     rotate_left
     ·intro w'
      go_simp
      with_reducible rfl
     rotate_left
     ·exact pt_
     refine take_ (i := 1) (N := some 20) (v := ?_) (a' := ?_) #[true, true, true, false, false, false, true, false, false, false, false] rfl rfl (take_ofW HT_.out HW_.out (by kernel_rfl)) (fun _ _ _ h => h) (Or.inl ⟨by rfl, ?_⟩) hHeld ?_ ?_
     rotate_left
     ·rintro w' ⟨s0, s1, s2, s3⟩
      go_simp
      with_reducible rfl
     rotate_left
     ·exact pt_
     refine take_ (i := 3) (N := some 22) (v := ?_) (a' := ?_) #[true, true, true, true, false, false, true, false, false, false, false] rfl rfl (take_ofW HT_.out HW_.out (by kernel_rfl)) (fun _ _ _ h => h) (Or.inl ⟨by rfl, ?_⟩) hHeld ?_ ?_
     rotate_left
     ·rintro w' ⟨s0, s1, s2, s3⟩
      go_simp
      with_reducible rfl
     rotate_left
     ·exact pt_
     refine take_ (i := 7) (N := some 26) (v := ?_) (a' := ?_) #[true, true, true, true, false, false, true, true, false, false, false] rfl rfl (take_ofW HT_.out HW_.out (by kernel_rfl)) (fun _ _ _ h => h) (Or.inl ⟨by rfl, ?_⟩) hHeld ?_ ?_
     rotate_left
     ·rintro w' ⟨s0, s1, s2, s3⟩
      go_simp
      with_reducible rfl
     rotate_left
     ·exact pt_
     refine one_ (i := 4) (N := some 23) #[true, true, true, true, true, false, true, true, false, false, false] rfl rfl (one_of HT_.out (by kernel_rfl)) (by decide) (fun K hK => ?_)
     refine gs_ Tryd.func61 #[.int .u64 a0_2] ?_
     with_reducible refine (pelorusref05_limbs.calls a0_2 t836 _ A19.out).mono ?_
     rintro e w25 ⟨v837, rfl, ho0, hb⟩
     refine ⟨_, rfl, ?_⟩
     have HO838 := Aside0.mk (Kd.R_lower ho0 (below_size (bw_ HB.out)))
     replace BK833 := kq_ BK833 hb
     replace BK834 := kq_ BK834 hb
     replace HB := bq_ HB hb
     (try clear hb)
     (try clear hb2)
     (try clear hk)
     (try clear hi)
     (try clear ho0)
     obtain ⟨Ao26, co26, eo26⟩ := Kd.R_slice HO838.out
     (first | subst eo26 | (injection eo26 with f1_ f2_ f3_; have f4_ := f1_.symm; have f5_ := f3_.symm; clear f1_ f2_ f3_; subst f4_; subst f5_))
     refine hK.out _ _ ⟨(blk_cell BK833.out 0).trans rfl, (blk_cell BK833.out 1).trans rfl, (blk_cell BK833.out 2).trans rfl, (blk_cell BK833.out 3).trans rfl⟩ (fun hHeld => ?_)
     clear hK K
     refine norm_ (a' := ?_) ?_ ?_
     rotate_left
     ·show Act.put _ (some 23) _ = _
      exact pt_
     refine one_ (i := 5) (N := some 24) #[true, true, true, true, true, true, true, true, false, false, false] rfl rfl (one_of HT_.out (by kernel_rfl)) (by decide) (fun K hK => ?_)
     refine gs_ Tryd.func60 #[.bool a0_1, .slice Ao26 t836.length co26] ?_
     with_reducible refine (pelorusref02_Make.calls kj2 a0_1 _ _ t836 t839 t840 _ ?side1 ?side2 A20.out).mono ?_
     (case side1 => exact kc_ (Kd.R_reads' HO838.out).2.2)
     (case side2 => exact (Kd.R_reads' HO838.out).2.1)
     rintro e w27 ⟨v841, rfl, ho0, hb⟩
     refine ⟨_, rfl, ?_⟩
     have HO842 := Aside0.mk (Kd.R_lower (Kd.R_new' ho0 (Kd.R_lt (kr_ HO838.out))) (below_size (bw_ HB.out)))
     replace HO838 := Aside0.mk (Kd.R_elder' (kr_ HO838.out) (Kd.R_base ho0) hb)
     replace BK833 := kq_ BK833 hb
     replace BK834 := kq_ BK834 hb
     replace HB := bq_ HB hb
     (try clear hb)
     (try clear hb2)
     (try clear hk)
     (try clear hi)
     (try clear ho0)
     obtain ⟨Ao28, co28, eo28⟩ := Kd.R_slice HO842.out
     (first | subst eo28 | (injection eo28 with f1_ f2_ f3_; have f4_ := f1_.symm; have f5_ := f3_.symm; clear f1_ f2_ f3_; subst f4_; subst f5_))
     refine hK.out _ _ ⟨(blk_cell BK833.out 0).trans rfl, (blk_cell BK833.out 1).trans rfl, (blk_cell BK833.out 2).trans rfl, (blk_cell BK833.out 3).trans rfl⟩ (fun hHeld => ?_)
     clear hK K
     refine norm_ (a' := ?_) ?_ ?_
     rotate_left
     ·show Act.put _ (some 24) _ = _
      exact pt_
     refine one_ (i := 8) (N := some 27) #[true, true, true, true, true, true, true, true, true, false, false] rfl rfl (one_of HT_.out (by kernel_rfl)) (by decide) (fun K hK => ?_)
     refine gs_ Tryd.func44 #[.agg #[.bool t839, .slice Ao28 t840.length co28], .int .i64 a0_3] ?_
     with_reducible refine (pelorusref03_Make.calls kj2 t839 _ _ t840 a0_3 t843 t844 t847 _ ?side1 ?side2 A21.out).mono ?_
     (case side1 => exact kc_ (Kd.R_reads' HO842.out).2.2)
     (case side2 => exact (Kd.R_reads' HO842.out).2.1)
     rintro e w29 ⟨v845, rfl, ho0, hb⟩
     refine ⟨_, rfl, ?_⟩
     have HO846 := Aside0.mk (Kd.R_lower (Kd.R_new' (Kd.R_new' ho0 (Kd.R_lt (kr_ HO838.out))) (Kd.R_lt (kr_ HO842.out))) (below_size (bw_ HB.out)))
     replace HO838 := Aside0.mk (Kd.R_elder' (kr_ HO838.out) (Kd.R_base ho0) hb)
     replace HO842 := Aside0.mk (Kd.R_elder' (kr_ HO842.out) (Kd.R_base ho0) hb)
     replace BK833 := kq_ BK833 hb
     replace BK834 := kq_ BK834 hb
     replace HB := bq_ HB hb
     (try clear hb)
     (try clear hb2)
     (try clear hk)
     (try clear hi)
     (try clear ho0)
     obtain ⟨Ao31, co31, eo31⟩ := Kd.R_slice HO846.out
     (first | subst eo31 | (injection eo31 with f1_ f2_ f3_; have f4_ := f1_.symm; have f5_ := f3_.symm; clear f1_ f2_ f3_; subst f4_; subst f5_))
     refine hK.out _ _ ⟨(blk_cell BK833.out 0).trans rfl, (blk_cell BK833.out 1).trans rfl, (blk_cell BK833.out 2).trans rfl, (blk_cell BK833.out 3).trans rfl⟩ (fun hHeld => ?_)
     clear hK K
     refine norm_ (a' := ?_) ?_ ?_
     rotate_left
     ·show Act.put _ (some 27) _ = _
      exact pt_
     refine one_ (i := 9) (N := none) #[true, true, true, true, true, true, true, true, true, true, false] rfl rfl (one_of HT_.out (by kernel_rfl)) (by decide) (fun K hK => ?_)
     have hs30 : w29.cell? ⟨gb834, 0, none⟩ = some (.bool false) := (blk_cell BK834.out 0).trans rfl
     have hfs30 := fz_ BK834 0
     have hns30_0 := NB833_834.out
     have hms30_0 := NB834_833.out
     have hs32 : w29.cell? ⟨gb834, 1, none⟩ = some (.slice none 0 0) := (blk_cell BK834.out 1).trans rfl
     have hfs32 := fz_ BK834 1
     have hns32_0 := NB833_834.out
     have hms32_0 := NB834_833.out
     have hs33 : w29.cell? ⟨gb834, 2, none⟩ = some (.int .i64 0) := (blk_cell BK834.out 2).trans rfl
     have hfs33 := fz_ BK834 2
     have hns33_0 := NB833_834.out
     have hms33_0 := NB834_833.out
     refine skip_ (w1 := ?_) (by rfl) rfl ?_ ?_
     rotate_left
     ·go_simp
      rfl
     refine hK.out _ _ ⟨((cell_far (p := ⟨gb834, _, none⟩) NB833_834.out _).trans (((cell_far (p := ⟨gb834, _, none⟩) NB833_834.out _).trans (((cell_far (p := ⟨gb834, _, none⟩) NB833_834.out _).trans (hHeld.1)))))), ((cell_far (p := ⟨gb834, _, none⟩) NB833_834.out _).trans (((cell_far (p := ⟨gb834, _, none⟩) NB833_834.out _).trans (((cell_far (p := ⟨gb834, _, none⟩) NB833_834.out _).trans (hHeld.2.1)))))), ((cell_far (p := ⟨gb834, _, none⟩) NB833_834.out _).trans (((cell_far (p := ⟨gb834, _, none⟩) NB833_834.out _).trans (((cell_far (p := ⟨gb834, _, none⟩) NB833_834.out _).trans (hHeld.2.2.1)))))), ((cell_far (p := ⟨gb834, _, none⟩) NB833_834.out _).trans (((cell_far (p := ⟨gb834, _, none⟩) NB833_834.out _).trans (((cell_far (p := ⟨gb834, _, none⟩) NB833_834.out _).trans (hHeld.2.2.2))))))⟩ (fun hHeld => ?_)
     clear hK K
     refine pure_ (i := 10) (N := some 3) (v := ?_) (a' := ?_) #[true, true, true, true, true, true, true, true, true, true, true] rfl rfl (any_of HT_.out (by kernel_rfl)) (fun _ _ _ h => h) (Or.inl ⟨by rfl, ?_⟩) ?_ ?_
     rotate_left
     ·intro w'
      go_simp
      with_reducible rfl
     rotate_left
     ·exact pt_
     refine done_ (done_of HT_.out (by kernel_rfl)) ?_
     try go_wp2
     refine bodyPost_ret (results_ct rfl _ _ gb834 26 #[.bool t843, .slice Ao31 t844.length co31, .int .i64 t847] (0, 0) _ rfl (by refine kb_ ?_; refine bp_ #[.bool t843, .slice Ao31 t844.length co31, .int .i64 0] 2 ?_; refine bp_ #[.bool t843, .slice none 0 0, .int .i64 0] 1 ?_; refine bp_ #[.bool false, .slice none 0 0, .int .i64 0] 0 ?_; exact BK834.out) Tryd.underlying26 rfl (by kernel_rfl)) rfl ?_
     exact ⟨_, rf_, by (with_reducible repeat (first | apply Kd.R_alloc | apply Kd.R_drewN | apply Kd.R_drew)); exact Kd.R_mono (Kd.R_far (p := ⟨gb834, 2, none⟩) (Kd.R_far (p := ⟨gb834, 1, none⟩) (Kd.R_far (p := ⟨gb834, 0, none⟩) (Kd.R_types HO846.out BK834.out (by decide)) (fun _ hk => hk.2) (.bool t843)) (fun _ hk => hk.2) (.slice Ao31 t844.length co31)) (fun _ hk => hk.2) (.int .i64 t847)) (fun _ hk => trivial), bw_ HB.out⟩

/-! ### pelorusref01_Same: function 79 -/
set_option maxHeartbeats 8000000 in
set_option maxRecDepth 100000 in
theorem pelorusref01_Same.calls (k : Nat) (A0 : Option Addr) (c0 : Nat) (l0 : List Int) (A1 : Option Addr) (c1 : Nat) (l1 : List Int) (r : Bool) (w : World) (hr0 : Kd.C (Kd.int .u32) w A0 l0.length l0) (hc0 : l0.length ≤ c0) (hr1 : Kd.C (Kd.int .u32) w A1 l1.length l1) (hc1 : l1.length ≤ c1) (h : pelorusref01_Same.f k l0 l1 = some r) :
  Calls Tryd.prog 79 #[.slice A0 l0.length c0, .slice A1 l1.length c1] w fun e w' => e = .returned (.bool r) ∧ Drawn0 w w' := by
 have HR0 := Aside0.mk hr0
 have HC0 := Aside0.mk hc0
 clear hr0 hc0
 have HR1 := Aside0.mk hr1
 have HC1 := Aside0.mk hc1
 clear hr1 hc1
 have H : (if (l0.length : Int) = (l1.length : Int) then (pelorusref01_Same.l0 k l0 l1 0) else (some false)) = some r := h
 clear h
 by_cases c3 : (l0.length : Int) = (l1.length : Int)
 ·rw [if_pos c3] at H
  have c3b0 : ((l0.length : Int) == (l1.length : Int)) = true := beq_iff_eq.mpr c3
  have c3b1 : ((l0.length : Int) != (l1.length : Int)) = false := bne_eq_false_iff_eq.mpr c3
  have c3b2 : (l0.length == l1.length) = true := by first | simpa using c3 | (simp at c3 ⊢; omega)
  clear c3
  have H' := Aside0.mk H
  clear H
  go_enter Tryd.func79, Tryd.ntmps79
  go_wp2
  repeat (go_quiet (fail); try go_wp2)
  go_loopg [5] k (fun kq v5 w' => ∃ (x5_1 : Int), v5 = .int .i64 x5_1 ∧ Aside0 (pelorusref01_Same.l0 kq l0 l1 x5_1 = some r) ∧ Aside0 (kq ≤ k) ∧ Drawn0 w w')
  case atStart => exact ⟨(0), (by first | rfl | (simp; done) | (simp [*]; done)), H', ⟨Nat.le_refl _⟩, by repeat (first | exact Drawn0.refl _ | apply Drawn0.step)⟩
  case round =>
   clear H'
   try clear c1
   try clear p2
   try clear c3
   try clear c3b0
   try clear c3b1
   try clear c3b2
   obtain ⟨x5_1, rfl, HA, HK1, ⟨m1, rfl⟩⟩ := hrel
   cases gk with
   | zero => exact absurd HA.out (by simp [pelorusref01_Same.l0])
   | succ k1 =>
    have H := HA.out
    clear HA
    simp only [pelorusref01_Same.l0] at H
    by_cases c4 : x5_1 < (l0.length : Int)
    ·rw [if_pos c4] at H
     have c4b0 : decide (x5_1 < (l0.length : Int)) = true := decide_eq_true c4
     clear c4
     by_cases c5 : 0 ≤ x5_1
     ·rw [if_pos c5] at H
      have c5b0 : decide (0 ≤ x5_1) = true := decide_eq_true c5
      clear c5
      by_cases c6 : x5_1 < (l1.length : Int)
      ·rw [if_pos c6] at H
       have c6b0 : decide (x5_1 < (l1.length : Int)) = true := decide_eq_true c6
       clear c6
       by_cases c7 : (rd l0 x5_1) = (rd l1 x5_1)
       ·rw [if_pos c7] at H
        have c7b0 : ((rd l0 x5_1) == (rd l1 x5_1)) = true := beq_iff_eq.mpr c7
        have c7b1 : ((rd l0 x5_1) != (rd l1 x5_1)) = false := bne_eq_false_iff_eq.mpr c7
        clear c7
        have H' := Aside0.mk H
        clear H
        have p848 : 0 ≤ (x5_1 : Int) := of_decide_eq_true (by first | (with_reducible assumption) | assumption)
        have q848 : x5_1 < (l0.length : Int) := of_decide_eq_true (by first | (with_reducible assumption) | assumption)
        obtain ⟨ad848, e848, hx848_0⟩ := Kd.at_int HR0.out x5_1 p848 q848
        cases e848
        replace p848 := eq_true p848
        replace q848 := eq_true q848
        have p849 : 0 ≤ (x5_1 : Int) := of_decide_eq_true (by first | (with_reducible assumption) | assumption)
        have q849 : x5_1 < (l1.length : Int) := of_decide_eq_true (by first | (with_reducible assumption) | assumption)
        obtain ⟨ad849, e849, hx849_0⟩ := Kd.at_int HR1.out x5_1 p849 q849
        cases e849
        replace p849 := eq_true p849
        replace q849 := eq_true q849
        go_wp2
        repeat (go_quiet (fail); try go_wp2)
        go_roundg k1
        case measure => have := HK1.out; omega
        case rel => exact ⟨(wrap64 (x5_1 + 1)), (by first | rfl | (simp; done) | (simp [*]; done)), H', ⟨by have := HK1.out; omega⟩, by repeat (first | exact Drawn0.refl _ | apply Drawn0.step)⟩
       ·rw [if_neg c7] at H
        have c7b0 : ((rd l0 x5_1) == (rd l1 x5_1)) = false := beq_eq_false_iff_ne.mpr c7
        have c7b1 : ((rd l0 x5_1) != (rd l1 x5_1)) = true := bne_iff_ne.mpr c7
        obtain rfl := Option.some.inj H
        have p848 : 0 ≤ (x5_1 : Int) := of_decide_eq_true (by first | (with_reducible assumption) | assumption)
        have q848 : x5_1 < (l0.length : Int) := of_decide_eq_true (by first | (with_reducible assumption) | assumption)
        obtain ⟨ad848, e848, hx848_0⟩ := Kd.at_int HR0.out x5_1 p848 q848
        cases e848
        replace p848 := eq_true p848
        replace q848 := eq_true q848
        have p849 : 0 ≤ (x5_1 : Int) := of_decide_eq_true (by first | (with_reducible assumption) | assumption)
        have q849 : x5_1 < (l1.length : Int) := of_decide_eq_true (by first | (with_reducible assumption) | assumption)
        obtain ⟨ad849, e849, hx849_0⟩ := Kd.at_int HR1.out x5_1 p849 q849
        cases e849
        replace p849 := eq_true p849
        replace q849 := eq_true q849
        go_wp2
        repeat (go_quiet (fail); try go_wp2)
        go_ret
        exact ⟨by first | rfl | (simp; done) | (simp [*]; done), by repeat (first | exact Drawn0.refl _ | apply Drawn0.step)⟩
      ·rw [if_neg c6] at H
       exact absurd H (by simp)
     ·rw [if_neg c5] at H
      exact absurd H (by simp)
    ·rw [if_neg c4] at H
     have c4b0 : decide (x5_1 < (l0.length : Int)) = false := decide_eq_false c4
     clear c4
     obtain rfl := Option.some.inj H
     go_wp2
     repeat (go_quiet (fail); try go_wp2)
     go_ret
     exact ⟨by first | rfl | (simp; done) | (simp [*]; done), by repeat (first | exact Drawn0.refl _ | apply Drawn0.step)⟩
 ·rw [if_neg c3] at H
  have c3b0 : ((l0.length : Int) == (l1.length : Int)) = false := beq_eq_false_iff_ne.mpr c3
  have c3b1 : ((l0.length : Int) != (l1.length : Int)) = true := bne_iff_ne.mpr c3
  have c3b2 : (l0.length == l1.length) = false := by first | simpa using c3 | (simp at c3 ⊢; omega)
  obtain rfl := Option.some.inj H
  go_enter Tryd.func79, Tryd.ntmps79
  go_wp2
  repeat (go_quiet (fail); try go_wp2)
  go_ret
  exact ⟨by first | rfl | (simp; done) | (simp [*]; done), by repeat (first | exact Drawn0.refl _ | apply Drawn0.step)⟩

/-! ### pelorusref02_Alike: function 62 -/
set_option maxHeartbeats 8000000 in
set_option maxRecDepth 100000 in
theorem pelorusref02_Alike.calls (k : Nat) (a0_0 : Bool) (A0_1 : Option Addr) (c0_1 : Nat) (l0_1 : List Int) (a1_0 : Bool) (A1_1 : Option Addr) (c1_1 : Nat) (l1_1 : List Int) (r : Bool) (w : World) (hr0_1 : Kd.C (Kd.int .u32) w A0_1 l0_1.length l0_1) (hc0_1 : l0_1.length ≤ c0_1) (hr1_1 : Kd.C (Kd.int .u32) w A1_1 l1_1.length l1_1) (hc1_1 : l1_1.length ≤ c1_1) (h : pelorusref02_Alike.f k a0_0 l0_1 a1_0 l1_1 = some r) :
  Calls Tryd.prog 62 #[.agg #[.bool a0_0, .slice A0_1 l0_1.length c0_1], .agg #[.bool a1_0, .slice A1_1 l1_1.length c1_1]] w fun e w' => e = .returned (.bool r) ∧ Below w.heap.size w w' := by
 have hu24 := Tryd.underlying24
 have HR0_1 := Aside0.mk hr0_1
 have HC0_1 := Aside0.mk hc0_1
 clear hr0_1 hc0_1
 have HR1_1 := Aside0.mk hr1_1
 have HC1_1 := Aside0.mk hc1_1
 clear hr1_1 hc1_1
 have HB := Aside0.mk (Below.refl w.heap.size w)
 have H : ((pelorusref01_Same.f k l0_1 l1_1).bind fun t852 => (if t852 = true then (some (a0_0 == a1_0)) else (some false))) = some r := h
 clear h
 replace H := Option.bind_eq_some_iff.mp H
 obtain ⟨t852, A30, H⟩ := H
 (try dsimp only at H)
 have A3 := Aside0.mk A30
 clear A30
 by_cases c4 : t852 = true
 ·subst c4
  have H1 : (some (a0_0 == a1_0)) = some r := by rw [if_pos rfl] at H; exact H
  clear H
  have H := H1
  clear H1
  obtain rfl := Option.some.inj H
  go_enter Tryd.func62, Tryd.ntmps62
  go_wp2_with (first | ((with_reducible refine gate_dst (N := 2) rfl ?_); refine bx_ 2 #[.bool a0_0, .slice A0_1 l0_1.length c0_1] 24 ?_; intro gb850 hg w5 hbox hb; have BK850 := Aside0.mk (hbox); have GW850 := ge_ hg HB; have GE850 := ge_ hg HB; replace HB := bq_ HB hb; clear hb hbox hg) | ((with_reducible refine gate_dst (N := 3) rfl ?_); refine bx_ 3 #[.bool a1_0, .slice A1_1 l1_1.length c1_1] 24 ?_; intro gb851 hg w6 hbox hb; have BK851 := Aside0.mk (hbox); have GW851 := ge_ hg HB; have GE851 := ge_ hg HB; have NB850_851 := nb_ hg BK850; have NB851_850 := nc_ hg BK850; replace BK850 := kq_ BK850 hb; replace HB := bq_ HB hb; clear hb hbox hg; have hnb7 := NB850_851.out; have hnc7 := NB851_850.out; obtain ⟨hcz8_0, hcz8_1, hfz8_0, hfz8_1⟩ := c2_ BK850; obtain ⟨hcz9_0, hcz9_1, hfz9_0, hfz9_1⟩ := c2_ BK851) | ((with_reducible refine gate_callee (f := 79) rfl ?_); refine gl_ (some 10) Tryd.func79 #[.slice A0_1 l0_1.length c0_1, .slice A1_1 l1_1.length c1_1] ?_; (with_reducible refine (pelorusref01_Same.calls k _ _ l0_1 _ _ l1_1 true _ ?side1 ?side2 ?side3 ?side4 A3.out).mono ?_); (case side1 => exact kc_ (Kd.C_below HR0_1.out HB.out)); (case side2 => exact HC0_1.out); (case side3 => exact kc_ (Kd.C_below HR1_1.out HB.out)); (case side4 => exact HC1_1.out); rintro e w' ⟨rfl, ⟨nd, rfl⟩⟩; refine ⟨_, rfl, ?_⟩))
  go_ret
  exact ⟨rf_, bw_ HB.out⟩
 ·replace c4 := Bool.eq_false_iff.mpr c4
  subst c4
  have H1 : (some false) = some r := by rw [if_neg (show ¬ (false = true) by decide)] at H; exact H
  clear H
  have H := H1
  clear H1
  obtain rfl := Option.some.inj H
  go_enter Tryd.func62, Tryd.ntmps62
  go_wp2_with (first | ((with_reducible refine gate_dst (N := 2) rfl ?_); refine bx_ 2 #[.bool a0_0, .slice A0_1 l0_1.length c0_1] 24 ?_; intro gb850 hg w10 hbox hb; have BK850 := Aside0.mk (hbox); have GW850 := ge_ hg HB; have GE850 := ge_ hg HB; replace HB := bq_ HB hb; clear hb hbox hg) | ((with_reducible refine gate_dst (N := 3) rfl ?_); refine bx_ 3 #[.bool a1_0, .slice A1_1 l1_1.length c1_1] 24 ?_; intro gb851 hg w11 hbox hb; have BK851 := Aside0.mk (hbox); have GW851 := ge_ hg HB; have GE851 := ge_ hg HB; have NB850_851 := nb_ hg BK850; have NB851_850 := nc_ hg BK850; replace BK850 := kq_ BK850 hb; replace HB := bq_ HB hb; clear hb hbox hg; have hnb12 := NB850_851.out; have hnc12 := NB851_850.out; obtain ⟨hcz13_0, hcz13_1, hfz13_0, hfz13_1⟩ := c2_ BK850; obtain ⟨hcz14_0, hcz14_1, hfz14_0, hfz14_1⟩ := c2_ BK851) | ((with_reducible refine gate_callee (f := 79) rfl ?_); refine gl_ (some 10) Tryd.func79 #[.slice A0_1 l0_1.length c0_1, .slice A1_1 l1_1.length c1_1] ?_; (with_reducible refine (pelorusref01_Same.calls k _ _ l0_1 _ _ l1_1 false _ ?side1 ?side2 ?side3 ?side4 A3.out).mono ?_); (case side1 => exact kc_ (Kd.C_below HR0_1.out HB.out)); (case side2 => exact HC0_1.out); (case side3 => exact kc_ (Kd.C_below HR1_1.out HB.out)); (case side4 => exact HC1_1.out); rintro e w' ⟨rfl, ⟨nd, rfl⟩⟩; refine ⟨_, rfl, ?_⟩))
  go_ret
  exact ⟨rf_, bw_ HB.out⟩

/-! ### pelorusref03_Alike: function 27 -/
set_option maxHeartbeats 8000000 in
set_option maxRecDepth 100000 in
theorem pelorusref03_Alike.calls (k : Nat) (a0_0 : Bool) (A0_1 : Option Addr) (c0_1 : Nat) (l0_1 : List Int) (a0_2 : Int) (a1_0 : Bool) (A1_1 : Option Addr) (c1_1 : Nat) (l1_1 : List Int) (a1_2 : Int) (r : Bool) (w : World) (hr0_1 : Kd.C (Kd.int .u32) w A0_1 l0_1.length l0_1) (hc0_1 : l0_1.length ≤ c0_1) (hr1_1 : Kd.C (Kd.int .u32) w A1_1 l1_1.length l1_1) (hc1_1 : l1_1.length ≤ c1_1) (h : pelorusref03_Alike.f k a0_0 l0_1 a0_2 a1_0 l1_1 a1_2 = some r) :
  Calls Tryd.prog 27 #[.agg #[.bool a0_0, .slice A0_1 l0_1.length c0_1, .int .i64 a0_2], .agg #[.bool a1_0, .slice A1_1 l1_1.length c1_1, .int .i64 a1_2]] w fun e w' => e = .returned (.bool r) ∧ Below w.heap.size w w' := by
 have hu26 := Tryd.underlying26
 have hu24 := Tryd.underlying24
 have HR0_1 := Aside0.mk hr0_1
 have HC0_1 := Aside0.mk hc0_1
 clear hr0_1 hc0_1
 have HR1_1 := Aside0.mk hr1_1
 have HC1_1 := Aside0.mk hc1_1
 clear hr1_1 hc1_1
 have HB := Aside0.mk (Below.refl w.heap.size w)
 have H : ((pelorusref02_Alike.f k a0_0 l0_1 a1_0 l1_1).bind fun t855 => (if t855 = true then (some (a0_2 == a1_2)) else (some false))) = some r := h
 clear h
 replace H := Option.bind_eq_some_iff.mp H
 obtain ⟨t855, A30, H⟩ := H
 (try dsimp only at H)
 have A3 := Aside0.mk A30
 clear A30
 by_cases c4 : t855 = true
 ·subst c4
  have H1 : (some (a0_2 == a1_2)) = some r := by rw [if_pos rfl] at H; exact H
  clear H
  have H := H1
  clear H1
  obtain rfl := Option.some.inj H
  go_enter Tryd.func27, Tryd.ntmps27
  go_wp2_with (first | ((with_reducible refine gate_dst (N := 2) rfl ?_); refine bx_ 2 #[.bool a0_0, .slice A0_1 l0_1.length c0_1, .int .i64 a0_2] 26 ?_; intro gb853 hg w5 hbox hb; have BK853 := Aside0.mk (hbox); have GW853 := ge_ hg HB; have GE853 := ge_ hg HB; replace HB := bq_ HB hb; clear hb hbox hg) | ((with_reducible refine gate_dst (N := 3) rfl ?_); refine bx_ 3 #[.bool a1_0, .slice A1_1 l1_1.length c1_1, .int .i64 a1_2] 26 ?_; intro gb854 hg w6 hbox hb; have BK854 := Aside0.mk (hbox); have GW854 := ge_ hg HB; have GE854 := ge_ hg HB; have NB853_854 := nb_ hg BK853; have NB854_853 := nc_ hg BK853; replace BK853 := kq_ BK853 hb; replace HB := bq_ HB hb; clear hb hbox hg; have hnb7 := NB853_854.out; have hnc7 := NB854_853.out; obtain ⟨hcz8_0, hcz8_1, hcz8_2, hfz8_0, hfz8_1, hfz8_2⟩ := c3_ BK853; obtain ⟨hcz9_0, hcz9_1, hcz9_2, hfz9_0, hfz9_1, hfz9_2⟩ := c3_ BK854) | ((with_reducible refine gate_callee (f := 62) rfl ?_); refine gl_ (some 10) Tryd.func62 #[.agg #[.bool a0_0, .slice A0_1 l0_1.length c0_1], .agg #[.bool a1_0, .slice A1_1 l1_1.length c1_1]] ?_; (with_reducible refine (pelorusref02_Alike.calls k a0_0 _ _ l0_1 a1_0 _ _ l1_1 true _ ?side1 ?side2 ?side3 ?side4 A3.out).mono ?_); (case side1 => exact kc_ (Kd.C_below HR0_1.out HB.out)); (case side2 => exact HC0_1.out); (case side3 => exact kc_ (Kd.C_below HR1_1.out HB.out)); (case side4 => exact HC1_1.out); rintro e w10 ⟨rfl, hb⟩; refine ⟨_, rfl, ?_⟩; replace BK853 := kq_ BK853 hb; replace BK854 := kq_ BK854 hb; replace HB := bq_ HB hb; (try clear hb); (try clear hb2); (try clear hk); (try clear hi); obtain ⟨hcz11_0, hcz11_1, hcz11_2, hfz11_0, hfz11_1, hfz11_2⟩ := c3_ BK853; obtain ⟨hcz12_0, hcz12_1, hcz12_2, hfz12_0, hfz12_1, hfz12_2⟩ := c3_ BK854))
  go_ret
  exact ⟨rf_, bw_ HB.out⟩
 ·replace c4 := Bool.eq_false_iff.mpr c4
  subst c4
  have H1 : (some false) = some r := by rw [if_neg (show ¬ (false = true) by decide)] at H; exact H
  clear H
  have H := H1
  clear H1
  obtain rfl := Option.some.inj H
  go_enter Tryd.func27, Tryd.ntmps27
  go_wp2_with (first | ((with_reducible refine gate_dst (N := 2) rfl ?_); refine bx_ 2 #[.bool a0_0, .slice A0_1 l0_1.length c0_1, .int .i64 a0_2] 26 ?_; intro gb853 hg w13 hbox hb; have BK853 := Aside0.mk (hbox); have GW853 := ge_ hg HB; have GE853 := ge_ hg HB; replace HB := bq_ HB hb; clear hb hbox hg) | ((with_reducible refine gate_dst (N := 3) rfl ?_); refine bx_ 3 #[.bool a1_0, .slice A1_1 l1_1.length c1_1, .int .i64 a1_2] 26 ?_; intro gb854 hg w14 hbox hb; have BK854 := Aside0.mk (hbox); have GW854 := ge_ hg HB; have GE854 := ge_ hg HB; have NB853_854 := nb_ hg BK853; have NB854_853 := nc_ hg BK853; replace BK853 := kq_ BK853 hb; replace HB := bq_ HB hb; clear hb hbox hg; have hnb15 := NB853_854.out; have hnc15 := NB854_853.out; obtain ⟨hcz16_0, hcz16_1, hcz16_2, hfz16_0, hfz16_1, hfz16_2⟩ := c3_ BK853; obtain ⟨hcz17_0, hcz17_1, hcz17_2, hfz17_0, hfz17_1, hfz17_2⟩ := c3_ BK854) | ((with_reducible refine gate_callee (f := 62) rfl ?_); refine gl_ (some 10) Tryd.func62 #[.agg #[.bool a0_0, .slice A0_1 l0_1.length c0_1], .agg #[.bool a1_0, .slice A1_1 l1_1.length c1_1]] ?_; (with_reducible refine (pelorusref02_Alike.calls k a0_0 _ _ l0_1 a1_0 _ _ l1_1 false _ ?side1 ?side2 ?side3 ?side4 A3.out).mono ?_); (case side1 => exact kc_ (Kd.C_below HR0_1.out HB.out)); (case side2 => exact HC0_1.out); (case side3 => exact kc_ (Kd.C_below HR1_1.out HB.out)); (case side4 => exact HC1_1.out); rintro e w18 ⟨rfl, hb⟩; refine ⟨_, rfl, ?_⟩; replace BK853 := kq_ BK853 hb; replace BK854 := kq_ BK854 hb; replace HB := bq_ HB hb; (try clear hb); (try clear hb2); (try clear hk); (try clear hi)))
  go_ret
  exact ⟨rf_, bw_ HB.out⟩

/-! ### pelorusref05_Neg: function 30 -/
set_option maxHeartbeats 8000000 in
set_option maxRecDepth 100000 in
theorem pelorusref05_Neg.calls (a0_0 : Int) (a0_1 : Bool) (a0_2 : Int) (a0_3 : Int) (r1 : Int) (r2 : Bool) (r3 : Int) (r4 : Int) (w : World) (h : pelorusref05_Neg.f a0_0 a0_1 a0_2 a0_3 = some (r1, r2, r3, r4)) :
  Calls Tryd.prog 30 #[.agg #[.int .i64 a0_0, .bool a0_1, .int .u64 a0_2, .int .i64 a0_3]] w fun e w' => e = .returned (.agg #[.int .i64 r1, .bool r2, .int .u64 r3, .int .i64 r4]) ∧ Below w.heap.size w w' := by
 have hu30 := Tryd.underlying30
 have HB := Aside0.mk (Below.refl w.heap.size w)
 have H : ((pelorusref05_fair.f a0_0 a0_1 a0_2 a0_3).bind fun bt858 => (if bt858.1 = 0 then (some (bt858.1, bt858.2.1, bt858.2.2.1, bt858.2.2.2)) else (some (bt858.1, !bt858.2.1, bt858.2.2.1, bt858.2.2.2)))) = some (r1, r2, r3, r4) := h
 clear h
 replace H := Option.bind_eq_some_iff.mp H
 obtain ⟨⟨t858, t859, t860, t861⟩, A20, H⟩ := H
 (try dsimp only at H)
 have A2 := Aside0.mk A20
 clear A20
 by_cases c3 : t858 = 0
 ·rw [if_pos c3] at H
  have c3b0 : (t858 == 0) = true := beq_iff_eq.mpr c3
  have c3b1 : (t858 != 0) = false := bne_eq_false_iff_eq.mpr c3
  clear c3
  simp only [Option.some.injEq, Prod.mk.injEq] at H
  obtain ⟨rfl, rfl, rfl, rfl⟩ := H
  go_enter Tryd.func30, Tryd.ntmps30
  go_wp2_with (first | ((with_reducible refine gate_dst (N := 1) rfl ?_); refine bx_ 1 #[.int .i64 a0_0, .bool a0_1, .int .u64 a0_2, .int .i64 a0_3] 30 ?_; intro gb856 hg w4 hbox hb; have BK856 := Aside0.mk (hbox); have GW856 := ge_ hg HB; have GE856 := ge_ hg HB; replace HB := bq_ HB hb; clear hb hbox hg) | ((with_reducible refine gate_dst (N := 2) rfl ?_); refine bx_ 2 #[.int .i64 0, .bool false, .int .u64 0, .int .i64 0] 30 ?_; intro gb857 hg w5 hbox hb; have BK857 := Aside0.mk (hbox); have GW857 := ge_ hg HB; have GE857 := ge_ hg HB; have NB856_857 := nb_ hg BK856; have NB857_856 := nc_ hg BK856; replace BK856 := kq_ BK856 hb; replace HB := bq_ HB hb; clear hb hbox hg; have hnb6 := NB856_857.out; have hnc6 := NB857_856.out; obtain ⟨hcz7_0, hcz7_1, hcz7_2, hcz7_3, hfz7_0, hfz7_1, hfz7_2, hfz7_3⟩ := c4_ BK856) | ((with_reducible refine gate_callee (f := 54) rfl ?_); refine gl_ (some 5) Tryd.func54 #[.agg #[.int .i64 a0_0, .bool a0_1, .int .u64 a0_2, .int .i64 a0_3]] ?_; (with_reducible refine (pelorusref05_fair.calls a0_0 a0_1 a0_2 a0_3 t858 t859 t860 t861 _ A2.out).mono ?_); rintro e w8 ⟨rfl, hb⟩; refine ⟨_, rfl, ?_⟩; replace BK856 := kq_ BK856 hb; replace BK857 := kq_ BK857 hb; replace HB := bq_ HB hb; (try clear hb); (try clear hb2); (try clear hk); (try clear hi)) | ((with_reducible refine gate_dst (N := 3) rfl ?_); refine bx_ 3 #[.int .i64 0, .bool false, .int .u64 0, .int .i64 0] 30 ?_; intro gb862 hg w9 hbox hb; have BK862 := Aside0.mk (hbox); have GW862 := ge_ hg HB; have GE862 := ge_ hg HB; have NB856_862 := nb_ hg BK856; have NB862_856 := nc_ hg BK856; have NB857_862 := nb_ hg BK857; have NB862_857 := nc_ hg BK857; replace BK856 := kq_ BK856 hb; replace BK857 := kq_ BK857 hb; replace HB := bq_ HB hb; clear hb hbox hg; have hnb10 := NB862_856.out; have hnc10 := NB856_862.out; have hnb11 := NB862_857.out; have hnc11 := NB857_862.out; obtain ⟨hcz12_0, hcz12_1, hcz12_2, hcz12_3, hfz12_0, hfz12_1, hfz12_2, hfz12_3⟩ := c4_ BK862; obtain ⟨hcz13_0, hcz13_1, hcz13_2, hcz13_3, hfz13_0, hfz13_1, hfz13_2, hfz13_3⟩ := c4_ BK857))
  refine bodyPost_ret (results_cell_row rfl _ _ gb857 30 #[.int .i64 t858, .bool t859, .int .u64 t860, .int .i64 t861] (0, 0) _ rfl (by refine kb_ ?_; refine bp_ #[.int .i64 t858, .bool t859, .int .u64 t860, .int .i64 0] 3 ?_; refine bp_ #[.int .i64 t858, .bool t859, .int .u64 0, .int .i64 0] 2 ?_; refine bp_ #[.int .i64 t858, .bool false, .int .u64 0, .int .i64 0] 1 ?_; refine bp_ #[.int .i64 0, .bool false, .int .u64 0, .int .i64 0] 0 ?_; refine bf_ NB857_862 ?_; refine bf_ NB857_862 ?_; refine bf_ NB857_862 ?_; refine bf_ NB857_862 ?_; exact BK857.out) Tryd.underlying30 rfl (by kernel_rfl)) rfl ?_
  exact ⟨rf_, bw_ HB.out⟩
 ·rw [if_neg c3] at H
  have c3b0 : (t858 == 0) = false := beq_eq_false_iff_ne.mpr c3
  have c3b1 : (t858 != 0) = true := bne_iff_ne.mpr c3
  simp only [Option.some.injEq, Prod.mk.injEq] at H
  obtain ⟨rfl, rfl, rfl, rfl⟩ := H
  go_enter Tryd.func30, Tryd.ntmps30
  go_wp2_with (first | ((with_reducible refine gate_dst (N := 1) rfl ?_); refine bx_ 1 #[.int .i64 a0_0, .bool a0_1, .int .u64 a0_2, .int .i64 a0_3] 30 ?_; intro gb856 hg w14 hbox hb; have BK856 := Aside0.mk (hbox); have GW856 := ge_ hg HB; have GE856 := ge_ hg HB; replace HB := bq_ HB hb; clear hb hbox hg) | ((with_reducible refine gate_dst (N := 2) rfl ?_); refine bx_ 2 #[.int .i64 0, .bool false, .int .u64 0, .int .i64 0] 30 ?_; intro gb857 hg w15 hbox hb; have BK857 := Aside0.mk (hbox); have GW857 := ge_ hg HB; have GE857 := ge_ hg HB; have NB856_857 := nb_ hg BK856; have NB857_856 := nc_ hg BK856; replace BK856 := kq_ BK856 hb; replace HB := bq_ HB hb; clear hb hbox hg; have hnb16 := NB856_857.out; have hnc16 := NB857_856.out; obtain ⟨hcz17_0, hcz17_1, hcz17_2, hcz17_3, hfz17_0, hfz17_1, hfz17_2, hfz17_3⟩ := c4_ BK856) | ((with_reducible refine gate_callee (f := 54) rfl ?_); refine gl_ (some 5) Tryd.func54 #[.agg #[.int .i64 a0_0, .bool a0_1, .int .u64 a0_2, .int .i64 a0_3]] ?_; (with_reducible refine (pelorusref05_fair.calls a0_0 a0_1 a0_2 a0_3 t858 t859 t860 t861 _ A2.out).mono ?_); rintro e w18 ⟨rfl, hb⟩; refine ⟨_, rfl, ?_⟩; replace BK856 := kq_ BK856 hb; replace BK857 := kq_ BK857 hb; replace HB := bq_ HB hb; (try clear hb); (try clear hb2); (try clear hk); (try clear hi)) | ((with_reducible refine gate_dst (N := 3) rfl ?_); refine bx_ 3 #[.int .i64 0, .bool false, .int .u64 0, .int .i64 0] 30 ?_; intro gb862 hg w19 hbox hb; have BK862 := Aside0.mk (hbox); have GW862 := ge_ hg HB; have GE862 := ge_ hg HB; have NB856_862 := nb_ hg BK856; have NB862_856 := nc_ hg BK856; have NB857_862 := nb_ hg BK857; have NB862_857 := nc_ hg BK857; replace BK856 := kq_ BK856 hb; replace BK857 := kq_ BK857 hb; replace HB := bq_ HB hb; clear hb hbox hg; have hnb20 := NB862_856.out; have hnc20 := NB856_862.out; have hnb21 := NB862_857.out; have hnc21 := NB857_862.out; obtain ⟨hcz22_0, hcz22_1, hcz22_2, hcz22_3, hfz22_0, hfz22_1, hfz22_2, hfz22_3⟩ := c4_ BK862; obtain ⟨hcz23_0, hcz23_1, hcz23_2, hcz23_3, hfz23_0, hfz23_1, hfz23_2, hfz23_3⟩ := c4_ BK857))
  refine bodyPost_ret (results_cell_row rfl _ _ gb857 30 #[.int .i64 t858, .bool (!t859), .int .u64 t860, .int .i64 t861] (0, 0) _ rfl (by refine kb_ ?_; refine bp_ #[.int .i64 t858, .bool (!t859), .int .u64 t860, .int .i64 0] 3 ?_; refine bp_ #[.int .i64 t858, .bool (!t859), .int .u64 0, .int .i64 0] 2 ?_; refine bp_ #[.int .i64 t858, .bool false, .int .u64 0, .int .i64 0] 1 ?_; refine bp_ #[.int .i64 0, .bool false, .int .u64 0, .int .i64 0] 0 ?_; refine bf_ NB857_862 ?_; refine bf_ NB857_862 ?_; refine bf_ NB857_862 ?_; refine bf_ NB857_862 ?_; refine bf_ NB857_862 ?_; exact BK857.out) Tryd.underlying30 rfl (by kernel_rfl)) rfl ?_
  exact ⟨rf_, bw_ HB.out⟩

/-! ### pelorusref05_Next: function 31 -/
set_option maxHeartbeats 8000000 in
set_option maxRecDepth 100000 in
theorem pelorusref05_Next.calls (a0_0 : Int) (a0_1 : Bool) (a0_2 : Int) (a0_3 : Int) (a1 : Bool) (r1 : Int) (r2 : Bool) (r3 : Int) (r4 : Int) (w : World) (h : pelorusref05_Next.f a0_0 a0_1 a0_2 a0_3 a1 = some (r1, r2, r3, r4)) :
  Calls Tryd.prog 31 #[.agg #[.int .i64 a0_0, .bool a0_1, .int .u64 a0_2, .int .i64 a0_3], .bool a1] w fun e w' => e = .returned (.agg #[.int .i64 r1, .bool r2, .int .u64 r3, .int .i64 r4]) ∧ Below w.heap.size w w' := by
 have hu30 := Tryd.underlying30
 have HB := Aside0.mk (Below.refl w.heap.size w)
 have H : ((pelorusref05_fair.f a0_0 a0_1 a0_2 a0_3).bind fun bt865 => (if bt865.1 = 2 then (if (bt865.2.1 == a1) = true then (some (1, bt865.2.1, 18446744073709551615, 1048576)) else (some (bt865.1, bt865.2.1, bt865.2.2.1, bt865.2.2.2))) else (if bt865.1 = 0 then (some (1, !a1, 9223372036854775808, (-1048576))) else (if (bt865.2.1 != a1) = true then (if bt865.2.2.1 = 18446744073709551615 then ((pelorusref05_finite.f bt865.2.1 9223372036854775808 (wrap64 (bt865.2.2.2 + 1)) true).bind fun bt870 => (some (bt870.1, bt870.2.1, bt870.2.2.1, bt870.2.2.2))) else (some (bt865.1, bt865.2.1, IntKind.u64.wrap (bt865.2.2.1 + 1), bt865.2.2.2))) else (if bt865.2.2.1 = 9223372036854775808 then ((pelorusref05_finite.f bt865.2.1 18446744073709551615 (wrap64 (bt865.2.2.2 - 1)) false).bind fun bt874 => (some (bt874.1, bt874.2.1, bt874.2.2.1, bt874.2.2.2))) else (some (bt865.1, bt865.2.1, IntKind.u64.wrap (bt865.2.2.1 - 1), bt865.2.2.2))))))) = some (r1, r2, r3, r4) := h
 clear h
 replace H := Option.bind_eq_some_iff.mp H
 obtain ⟨⟨t865, t866, t867, t868⟩, A30, H⟩ := H
 (try dsimp only at H)
 have A3 := Aside0.mk A30
 clear A30
 by_cases c4 : t865 = 2
 ·rw [if_pos c4] at H
  have c4b0 : (t865 == 2) = true := beq_iff_eq.mpr c4
  have c4b1 : (t865 != 2) = false := bne_eq_false_iff_eq.mpr c4
  clear c4
  by_cases c5 : (t866 == a1) = true
  ·rw [if_pos c5] at H
   have c5b0 : (t866 == a1) = true := c5
   (try (have c5b1 : decide (t866 = a1) = true := by simpa using c5))
   (try (have c5b2 : (t866 == a1) = true := by simpa using c5))
   clear c5
   simp only [Option.some.injEq, Prod.mk.injEq] at H
   obtain ⟨rfl, rfl, rfl, rfl⟩ := H
   go_enter Tryd.func31, Tryd.ntmps31
   go_wp2_with (first | ((with_reducible refine gate_dst (N := 2) rfl ?_); refine bx_ 2 #[.int .i64 a0_0, .bool a0_1, .int .u64 a0_2, .int .i64 a0_3] 30 ?_; intro gb863 hg w6 hbox hb; have BK863 := Aside0.mk (hbox); have GW863 := ge_ hg HB; have GE863 := ge_ hg HB; replace HB := bq_ HB hb; clear hb hbox hg) | ((with_reducible refine gate_dst (N := 4) rfl ?_); refine bx_ 4 #[.int .i64 0, .bool false, .int .u64 0, .int .i64 0] 30 ?_; intro gb864 hg w7 hbox hb; have BK864 := Aside0.mk (hbox); have GW864 := ge_ hg HB; have GE864 := ge_ hg HB; have NB863_864 := nb_ hg BK863; have NB864_863 := nc_ hg BK863; replace BK863 := kq_ BK863 hb; replace HB := bq_ HB hb; clear hb hbox hg; have hnb8 := NB863_864.out; have hnc8 := NB864_863.out; obtain ⟨hcz9_0, hcz9_1, hcz9_2, hcz9_3, hfz9_0, hfz9_1, hfz9_2, hfz9_3⟩ := c4_ BK863) | ((with_reducible refine gate_callee (f := 54) rfl ?_); refine gl_ (some 7) Tryd.func54 #[.agg #[.int .i64 a0_0, .bool a0_1, .int .u64 a0_2, .int .i64 a0_3]] ?_; (with_reducible refine (pelorusref05_fair.calls a0_0 a0_1 a0_2 a0_3 t865 t866 t867 t868 _ A3.out).mono ?_); rintro e w10 ⟨rfl, hb⟩; refine ⟨_, rfl, ?_⟩; replace BK863 := kq_ BK863 hb; replace BK864 := kq_ BK864 hb; replace HB := bq_ HB hb; (try clear hb); (try clear hb2); (try clear hk); (try clear hi)) | ((with_reducible refine gate_dst (N := 5) rfl ?_); refine bx_ 5 #[.int .i64 0, .bool false, .int .u64 0, .int .i64 0] 30 ?_; intro gb869 hg w11 hbox hb; have BK869 := Aside0.mk (hbox); have GW869 := ge_ hg HB; have GE869 := ge_ hg HB; have NB863_869 := nb_ hg BK863; have NB869_863 := nc_ hg BK863; have NB864_869 := nb_ hg BK864; have NB869_864 := nc_ hg BK864; replace BK863 := kq_ BK863 hb; replace BK864 := kq_ BK864 hb; replace HB := bq_ HB hb; clear hb hbox hg; have hnb12 := NB869_863.out; have hnc12 := NB863_869.out; have hnb13 := NB869_864.out; have hnc13 := NB864_869.out; obtain ⟨hcz14_0, hcz14_1, hcz14_2, hcz14_3, hfz14_0, hfz14_1, hfz14_2, hfz14_3⟩ := c4_ BK869; obtain ⟨hcz15_0, hcz15_1, hcz15_2, hcz15_3, hfz15_0, hfz15_1, hfz15_2, hfz15_3⟩ := c4_ BK864))
   refine bodyPost_ret (results_cell_row rfl _ _ gb864 30 #[.int .i64 1, .bool t866, .int .u64 18446744073709551615, .int .i64 1048576] (0, 0) _ rfl (by refine kb_ ?_; refine bp_ #[.int .i64 1, .bool t866, .int .u64 18446744073709551615, .int .i64 0] 3 ?_; refine bp_ #[.int .i64 1, .bool t866, .int .u64 0, .int .i64 0] 2 ?_; refine bp_ #[.int .i64 1, .bool false, .int .u64 0, .int .i64 0] 1 ?_; refine bp_ #[.int .i64 0, .bool false, .int .u64 0, .int .i64 0] 0 ?_; refine bf_ NB864_869 ?_; refine bf_ NB864_869 ?_; refine bf_ NB864_869 ?_; refine bf_ NB864_869 ?_; exact BK864.out) Tryd.underlying30 rfl (by kernel_rfl)) rfl ?_
   exact ⟨rf_, bw_ HB.out⟩
  ·rw [if_neg c5] at H
   have c5b0 : (t866 == a1) = false := by simpa using c5
   (try (have c5b1 : decide (t866 = a1) = false := by simpa using c5))
   (try (have c5b2 : (t866 == a1) = false := by simpa using c5))
   (try (have c5b3 : ¬ (t866 = a1) := by simpa using c5))
   clear c5
   simp only [Option.some.injEq, Prod.mk.injEq] at H
   obtain ⟨rfl, rfl, rfl, rfl⟩ := H
   go_enter Tryd.func31, Tryd.ntmps31
   go_wp2_with (first | ((with_reducible refine gate_dst (N := 2) rfl ?_); refine bx_ 2 #[.int .i64 a0_0, .bool a0_1, .int .u64 a0_2, .int .i64 a0_3] 30 ?_; intro gb863 hg w16 hbox hb; have BK863 := Aside0.mk (hbox); have GW863 := ge_ hg HB; have GE863 := ge_ hg HB; replace HB := bq_ HB hb; clear hb hbox hg) | ((with_reducible refine gate_dst (N := 4) rfl ?_); refine bx_ 4 #[.int .i64 0, .bool false, .int .u64 0, .int .i64 0] 30 ?_; intro gb864 hg w17 hbox hb; have BK864 := Aside0.mk (hbox); have GW864 := ge_ hg HB; have GE864 := ge_ hg HB; have NB863_864 := nb_ hg BK863; have NB864_863 := nc_ hg BK863; replace BK863 := kq_ BK863 hb; replace HB := bq_ HB hb; clear hb hbox hg; have hnb18 := NB863_864.out; have hnc18 := NB864_863.out; obtain ⟨hcz19_0, hcz19_1, hcz19_2, hcz19_3, hfz19_0, hfz19_1, hfz19_2, hfz19_3⟩ := c4_ BK863) | ((with_reducible refine gate_callee (f := 54) rfl ?_); refine gl_ (some 7) Tryd.func54 #[.agg #[.int .i64 a0_0, .bool a0_1, .int .u64 a0_2, .int .i64 a0_3]] ?_; (with_reducible refine (pelorusref05_fair.calls a0_0 a0_1 a0_2 a0_3 t865 t866 t867 t868 _ A3.out).mono ?_); rintro e w20 ⟨rfl, hb⟩; refine ⟨_, rfl, ?_⟩; replace BK863 := kq_ BK863 hb; replace BK864 := kq_ BK864 hb; replace HB := bq_ HB hb; (try clear hb); (try clear hb2); (try clear hk); (try clear hi)) | ((with_reducible refine gate_dst (N := 5) rfl ?_); refine bx_ 5 #[.int .i64 0, .bool false, .int .u64 0, .int .i64 0] 30 ?_; intro gb869 hg w21 hbox hb; have BK869 := Aside0.mk (hbox); have GW869 := ge_ hg HB; have GE869 := ge_ hg HB; have NB863_869 := nb_ hg BK863; have NB869_863 := nc_ hg BK863; have NB864_869 := nb_ hg BK864; have NB869_864 := nc_ hg BK864; replace BK863 := kq_ BK863 hb; replace BK864 := kq_ BK864 hb; replace HB := bq_ HB hb; clear hb hbox hg; have hnb22 := NB869_863.out; have hnc22 := NB863_869.out; have hnb23 := NB869_864.out; have hnc23 := NB864_869.out; obtain ⟨hcz24_0, hcz24_1, hcz24_2, hcz24_3, hfz24_0, hfz24_1, hfz24_2, hfz24_3⟩ := c4_ BK869; obtain ⟨hcz25_0, hcz25_1, hcz25_2, hcz25_3, hfz25_0, hfz25_1, hfz25_2, hfz25_3⟩ := c4_ BK864))
   refine bodyPost_ret (results_cell_row rfl _ _ gb864 30 #[.int .i64 t865, .bool t866, .int .u64 t867, .int .i64 t868] (0, 0) _ rfl (by refine kb_ ?_; refine bp_ #[.int .i64 t865, .bool t866, .int .u64 t867, .int .i64 0] 3 ?_; refine bp_ #[.int .i64 t865, .bool t866, .int .u64 0, .int .i64 0] 2 ?_; refine bp_ #[.int .i64 t865, .bool false, .int .u64 0, .int .i64 0] 1 ?_; refine bp_ #[.int .i64 0, .bool false, .int .u64 0, .int .i64 0] 0 ?_; refine bf_ NB864_869 ?_; refine bf_ NB864_869 ?_; refine bf_ NB864_869 ?_; refine bf_ NB864_869 ?_; exact BK864.out) Tryd.underlying30 rfl (by kernel_rfl)) rfl ?_
   exact ⟨rf_, bw_ HB.out⟩
 ·rw [if_neg c4] at H
  have c4b0 : (t865 == 2) = false := beq_eq_false_iff_ne.mpr c4
  have c4b1 : (t865 != 2) = true := bne_iff_ne.mpr c4
  by_cases c26 : t865 = 0
  ·rw [if_pos c26] at H
   have c26b0 : (t865 == 0) = true := beq_iff_eq.mpr c26
   have c26b1 : (t865 != 0) = false := bne_eq_false_iff_eq.mpr c26
   clear c26
   simp only [Option.some.injEq, Prod.mk.injEq] at H
   obtain ⟨rfl, rfl, rfl, rfl⟩ := H
   go_enter Tryd.func31, Tryd.ntmps31
   go_wp2_with (first | ((with_reducible refine gate_dst (N := 2) rfl ?_); refine bx_ 2 #[.int .i64 a0_0, .bool a0_1, .int .u64 a0_2, .int .i64 a0_3] 30 ?_; intro gb863 hg w27 hbox hb; have BK863 := Aside0.mk (hbox); have GW863 := ge_ hg HB; have GE863 := ge_ hg HB; replace HB := bq_ HB hb; clear hb hbox hg) | ((with_reducible refine gate_dst (N := 4) rfl ?_); refine bx_ 4 #[.int .i64 0, .bool false, .int .u64 0, .int .i64 0] 30 ?_; intro gb864 hg w28 hbox hb; have BK864 := Aside0.mk (hbox); have GW864 := ge_ hg HB; have GE864 := ge_ hg HB; have NB863_864 := nb_ hg BK863; have NB864_863 := nc_ hg BK863; replace BK863 := kq_ BK863 hb; replace HB := bq_ HB hb; clear hb hbox hg; have hnb29 := NB863_864.out; have hnc29 := NB864_863.out; obtain ⟨hcz30_0, hcz30_1, hcz30_2, hcz30_3, hfz30_0, hfz30_1, hfz30_2, hfz30_3⟩ := c4_ BK863) | ((with_reducible refine gate_callee (f := 54) rfl ?_); refine gl_ (some 7) Tryd.func54 #[.agg #[.int .i64 a0_0, .bool a0_1, .int .u64 a0_2, .int .i64 a0_3]] ?_; (with_reducible refine (pelorusref05_fair.calls a0_0 a0_1 a0_2 a0_3 t865 t866 t867 t868 _ A3.out).mono ?_); rintro e w31 ⟨rfl, hb⟩; refine ⟨_, rfl, ?_⟩; replace BK863 := kq_ BK863 hb; replace BK864 := kq_ BK864 hb; replace HB := bq_ HB hb; (try clear hb); (try clear hb2); (try clear hk); (try clear hi)) | ((with_reducible refine gate_dst (N := 5) rfl ?_); refine bx_ 5 #[.int .i64 0, .bool false, .int .u64 0, .int .i64 0] 30 ?_; intro gb869 hg w32 hbox hb; have BK869 := Aside0.mk (hbox); have GW869 := ge_ hg HB; have GE869 := ge_ hg HB; have NB863_869 := nb_ hg BK863; have NB869_863 := nc_ hg BK863; have NB864_869 := nb_ hg BK864; have NB869_864 := nc_ hg BK864; replace BK863 := kq_ BK863 hb; replace BK864 := kq_ BK864 hb; replace HB := bq_ HB hb; clear hb hbox hg; have hnb33 := NB869_863.out; have hnc33 := NB863_869.out; have hnb34 := NB869_864.out; have hnc34 := NB864_869.out; obtain ⟨hcz35_0, hcz35_1, hcz35_2, hcz35_3, hfz35_0, hfz35_1, hfz35_2, hfz35_3⟩ := c4_ BK869; obtain ⟨hcz36_0, hcz36_1, hcz36_2, hcz36_3, hfz36_0, hfz36_1, hfz36_2, hfz36_3⟩ := c4_ BK864))
   refine bodyPost_ret (results_cell_row rfl _ _ gb864 30 #[.int .i64 1, .bool (!a1), .int .u64 9223372036854775808, .int .i64 (-1048576)] (0, 0) _ rfl (by refine kb_ ?_; refine bp_ #[.int .i64 1, .bool (!a1), .int .u64 9223372036854775808, .int .i64 0] 3 ?_; refine bp_ #[.int .i64 1, .bool (!a1), .int .u64 0, .int .i64 0] 2 ?_; refine bp_ #[.int .i64 1, .bool false, .int .u64 0, .int .i64 0] 1 ?_; refine bp_ #[.int .i64 0, .bool false, .int .u64 0, .int .i64 0] 0 ?_; refine bf_ NB864_869 ?_; refine bf_ NB864_869 ?_; refine bf_ NB864_869 ?_; refine bf_ NB864_869 ?_; exact BK864.out) Tryd.underlying30 rfl (by kernel_rfl)) rfl ?_
   exact ⟨rf_, bw_ HB.out⟩
  ·rw [if_neg c26] at H
   have c26b0 : (t865 == 0) = false := beq_eq_false_iff_ne.mpr c26
   have c26b1 : (t865 != 0) = true := bne_iff_ne.mpr c26
   by_cases c37 : (t866 != a1) = true
   ·rw [if_pos c37] at H
    have c37b0 : (t866 != a1) = true := c37
    (try (have c37b1 : decide (t866 = a1) = false := by simpa using c37))
    (try (have c37b2 : (t866 == a1) = false := by simpa using c37))
    (try (have c37b3 : ¬ (t866 = a1) := by simpa using c37))
    clear c37
    by_cases c38 : t867 = 18446744073709551615
    ·rw [if_pos c38] at H
     have c38b0 : (t867 == 18446744073709551615) = true := beq_iff_eq.mpr c38
     have c38b1 : (t867 != 18446744073709551615) = false := bne_eq_false_iff_eq.mpr c38
     clear c38
     replace H := Option.bind_eq_some_iff.mp H
     obtain ⟨⟨t870, t871, t872, t873⟩, A390, H⟩ := H
     (try dsimp only at H)
     have A39 := Aside0.mk A390
     clear A390
     simp only [Option.some.injEq, Prod.mk.injEq] at H
     obtain ⟨rfl, rfl, rfl, rfl⟩ := H
     go_enter Tryd.func31, Tryd.ntmps31
     go_wp2_with (first | ((with_reducible refine gate_dst (N := 2) rfl ?_); refine bx_ 2 #[.int .i64 a0_0, .bool a0_1, .int .u64 a0_2, .int .i64 a0_3] 30 ?_; intro gb863 hg w40 hbox hb; have BK863 := Aside0.mk (hbox); have GW863 := ge_ hg HB; have GE863 := ge_ hg HB; replace HB := bq_ HB hb; clear hb hbox hg) | ((with_reducible refine gate_dst (N := 4) rfl ?_); refine bx_ 4 #[.int .i64 0, .bool false, .int .u64 0, .int .i64 0] 30 ?_; intro gb864 hg w41 hbox hb; have BK864 := Aside0.mk (hbox); have GW864 := ge_ hg HB; have GE864 := ge_ hg HB; have NB863_864 := nb_ hg BK863; have NB864_863 := nc_ hg BK863; replace BK863 := kq_ BK863 hb; replace HB := bq_ HB hb; clear hb hbox hg; have hnb42 := NB863_864.out; have hnc42 := NB864_863.out; obtain ⟨hcz43_0, hcz43_1, hcz43_2, hcz43_3, hfz43_0, hfz43_1, hfz43_2, hfz43_3⟩ := c4_ BK863) | ((with_reducible refine gate_callee (f := 54) rfl ?_); refine gl_ (some 7) Tryd.func54 #[.agg #[.int .i64 a0_0, .bool a0_1, .int .u64 a0_2, .int .i64 a0_3]] ?_; (with_reducible refine (pelorusref05_fair.calls a0_0 a0_1 a0_2 a0_3 t865 t866 t867 t868 _ A3.out).mono ?_); rintro e w44 ⟨rfl, hb⟩; refine ⟨_, rfl, ?_⟩; replace BK863 := kq_ BK863 hb; replace BK864 := kq_ BK864 hb; replace HB := bq_ HB hb; (try clear hb); (try clear hb2); (try clear hk); (try clear hi)) | ((with_reducible refine gate_dst (N := 5) rfl ?_); refine bx_ 5 #[.int .i64 0, .bool false, .int .u64 0, .int .i64 0] 30 ?_; intro gb869 hg w45 hbox hb; have BK869 := Aside0.mk (hbox); have GW869 := ge_ hg HB; have GE869 := ge_ hg HB; have NB863_869 := nb_ hg BK863; have NB869_863 := nc_ hg BK863; have NB864_869 := nb_ hg BK864; have NB869_864 := nc_ hg BK864; replace BK863 := kq_ BK863 hb; replace BK864 := kq_ BK864 hb; replace HB := bq_ HB hb; clear hb hbox hg; have hnb46 := NB869_863.out; have hnc46 := NB863_869.out; have hnb47 := NB869_864.out; have hnc47 := NB864_869.out; obtain ⟨hcz48_0, hcz48_1, hcz48_2, hcz48_3, hfz48_0, hfz48_1, hfz48_2, hfz48_3⟩ := c4_ BK869) | ((with_reducible refine gate_callee (f := 46) rfl ?_); refine gl_ (some 37) Tryd.func46 #[.bool t866, .int .u64 9223372036854775808, .int .i64 (wrap64 (t868 + 1)), .bool true] ?_; (with_reducible refine (pelorusref05_finite.calls t866 9223372036854775808 (wrap64 (t868 + 1)) true t870 t871 t872 t873 _ A39.out).mono ?_); rintro e w49 ⟨rfl, hb⟩; refine ⟨_, rfl, ?_⟩; have n0_ := Aside0.mk (blk_below (g := gb863) (o := .cells #[.int .i64 a0_0, .bool a0_1, .int .u64 a0_2, .int .i64 a0_3] 30 (0, 0)) (by refine kb_ ?_; refine bf_ NB863_869 ?_; refine bf_ NB863_869 ?_; refine bf_ NB863_869 ?_; refine bf_ NB863_869 ?_; exact BK863.out) hb); have n1_ := Aside0.mk (blk_below (g := gb864) (o := .cells #[.int .i64 0, .bool false, .int .u64 0, .int .i64 0] 30 (0, 0)) (by refine kb_ ?_; refine bf_ NB864_869 ?_; refine bf_ NB864_869 ?_; refine bf_ NB864_869 ?_; refine bf_ NB864_869 ?_; exact BK864.out) hb); have n2_ := Aside0.mk (blk_below (g := gb869) (o := .cells #[.int .i64 t865, .bool t866, .int .u64 t867, .int .i64 t868] 30 (0, 0)) (by refine kb_ ?_; refine bp_ #[.int .i64 t865, .bool t866, .int .u64 t867, .int .i64 0] 3 ?_; refine bp_ #[.int .i64 t865, .bool t866, .int .u64 0, .int .i64 0] 2 ?_; refine bp_ #[.int .i64 t865, .bool false, .int .u64 0, .int .i64 0] 1 ?_; refine bp_ #[.int .i64 0, .bool false, .int .u64 0, .int .i64 0] 0 ?_; exact BK869.out) hb); have n3_ := bq_ HB hb; clear BK863; clear BK864; clear BK869; clear HB; have BK863 := n0_; have BK864 := n1_; have BK869 := n2_; have HB := n3_; clear n0_ n1_ n2_ n3_; (try clear hb); (try clear hb2); (try clear hk); (try clear hi); obtain ⟨hcz50_0, hcz50_1, hcz50_2, hcz50_3, hfz50_0, hfz50_1, hfz50_2, hfz50_3⟩ := c4_ BK864))
     refine bodyPost_ret (results_cell_row rfl _ _ gb864 30 #[.int .i64 t870, .bool t871, .int .u64 t872, .int .i64 t873] (0, 0) _ rfl (by refine kb_ ?_; refine bp_ #[.int .i64 t870, .bool t871, .int .u64 t872, .int .i64 0] 3 ?_; refine bp_ #[.int .i64 t870, .bool t871, .int .u64 0, .int .i64 0] 2 ?_; refine bp_ #[.int .i64 t870, .bool false, .int .u64 0, .int .i64 0] 1 ?_; refine bp_ #[.int .i64 0, .bool false, .int .u64 0, .int .i64 0] 0 ?_; exact BK864.out) Tryd.underlying30 rfl (by kernel_rfl)) rfl ?_
     exact ⟨rf_, bw_ HB.out⟩
    ·rw [if_neg c38] at H
     have c38b0 : (t867 == 18446744073709551615) = false := beq_eq_false_iff_ne.mpr c38
     have c38b1 : (t867 != 18446744073709551615) = true := bne_iff_ne.mpr c38
     simp only [Option.some.injEq, Prod.mk.injEq] at H
     obtain ⟨rfl, rfl, rfl, rfl⟩ := H
     go_enter Tryd.func31, Tryd.ntmps31
     go_wp2_with (first | ((with_reducible refine gate_dst (N := 2) rfl ?_); refine bx_ 2 #[.int .i64 a0_0, .bool a0_1, .int .u64 a0_2, .int .i64 a0_3] 30 ?_; intro gb863 hg w51 hbox hb; have BK863 := Aside0.mk (hbox); have GW863 := ge_ hg HB; have GE863 := ge_ hg HB; replace HB := bq_ HB hb; clear hb hbox hg) | ((with_reducible refine gate_dst (N := 4) rfl ?_); refine bx_ 4 #[.int .i64 0, .bool false, .int .u64 0, .int .i64 0] 30 ?_; intro gb864 hg w52 hbox hb; have BK864 := Aside0.mk (hbox); have GW864 := ge_ hg HB; have GE864 := ge_ hg HB; have NB863_864 := nb_ hg BK863; have NB864_863 := nc_ hg BK863; replace BK863 := kq_ BK863 hb; replace HB := bq_ HB hb; clear hb hbox hg; have hnb53 := NB863_864.out; have hnc53 := NB864_863.out; obtain ⟨hcz54_0, hcz54_1, hcz54_2, hcz54_3, hfz54_0, hfz54_1, hfz54_2, hfz54_3⟩ := c4_ BK863) | ((with_reducible refine gate_callee (f := 54) rfl ?_); refine gl_ (some 7) Tryd.func54 #[.agg #[.int .i64 a0_0, .bool a0_1, .int .u64 a0_2, .int .i64 a0_3]] ?_; (with_reducible refine (pelorusref05_fair.calls a0_0 a0_1 a0_2 a0_3 t865 t866 t867 t868 _ A3.out).mono ?_); rintro e w55 ⟨rfl, hb⟩; refine ⟨_, rfl, ?_⟩; replace BK863 := kq_ BK863 hb; replace BK864 := kq_ BK864 hb; replace HB := bq_ HB hb; (try clear hb); (try clear hb2); (try clear hk); (try clear hi)) | ((with_reducible refine gate_dst (N := 5) rfl ?_); refine bx_ 5 #[.int .i64 0, .bool false, .int .u64 0, .int .i64 0] 30 ?_; intro gb869 hg w56 hbox hb; have BK869 := Aside0.mk (hbox); have GW869 := ge_ hg HB; have GE869 := ge_ hg HB; have NB863_869 := nb_ hg BK863; have NB869_863 := nc_ hg BK863; have NB864_869 := nb_ hg BK864; have NB869_864 := nc_ hg BK864; replace BK863 := kq_ BK863 hb; replace BK864 := kq_ BK864 hb; replace HB := bq_ HB hb; clear hb hbox hg; have hnb57 := NB869_863.out; have hnc57 := NB863_869.out; have hnb58 := NB869_864.out; have hnc58 := NB864_869.out; obtain ⟨hcz59_0, hcz59_1, hcz59_2, hcz59_3, hfz59_0, hfz59_1, hfz59_2, hfz59_3⟩ := c4_ BK869; obtain ⟨hcz60_0, hcz60_1, hcz60_2, hcz60_3, hfz60_0, hfz60_1, hfz60_2, hfz60_3⟩ := c4_ BK864))
     refine bodyPost_ret (results_cell_row rfl _ _ gb864 30 #[.int .i64 t865, .bool t866, .int .u64 (IntKind.u64.wrap (t867 + 1)), .int .i64 t868] (0, 0) _ rfl (by refine kb_ ?_; refine bp_ #[.int .i64 t865, .bool t866, .int .u64 (IntKind.u64.wrap (t867 + 1)), .int .i64 0] 3 ?_; refine bp_ #[.int .i64 t865, .bool t866, .int .u64 0, .int .i64 0] 2 ?_; refine bp_ #[.int .i64 t865, .bool false, .int .u64 0, .int .i64 0] 1 ?_; refine bp_ #[.int .i64 0, .bool false, .int .u64 0, .int .i64 0] 0 ?_; refine bf_ NB864_869 ?_; refine bf_ NB864_869 ?_; refine bf_ NB864_869 ?_; refine bf_ NB864_869 ?_; refine bf_ NB864_869 ?_; exact BK864.out) Tryd.underlying30 rfl (by kernel_rfl)) rfl ?_
     exact ⟨rf_, bw_ HB.out⟩
   ·rw [if_neg c37] at H
    have c37b0 : (t866 != a1) = false := by simpa using c37
    (try (have c37b1 : decide (t866 = a1) = true := by simpa using c37))
    (try (have c37b2 : (t866 == a1) = true := by simpa using c37))
    clear c37
    by_cases c61 : t867 = 9223372036854775808
    ·rw [if_pos c61] at H
     have c61b0 : (t867 == 9223372036854775808) = true := beq_iff_eq.mpr c61
     have c61b1 : (t867 != 9223372036854775808) = false := bne_eq_false_iff_eq.mpr c61
     clear c61
     replace H := Option.bind_eq_some_iff.mp H
     obtain ⟨⟨t874, t875, t876, t877⟩, A620, H⟩ := H
     (try dsimp only at H)
     have A62 := Aside0.mk A620
     clear A620
     simp only [Option.some.injEq, Prod.mk.injEq] at H
     obtain ⟨rfl, rfl, rfl, rfl⟩ := H
     go_enter Tryd.func31, Tryd.ntmps31
     go_wp2_with (first | ((with_reducible refine gate_dst (N := 2) rfl ?_); refine bx_ 2 #[.int .i64 a0_0, .bool a0_1, .int .u64 a0_2, .int .i64 a0_3] 30 ?_; intro gb863 hg w63 hbox hb; have BK863 := Aside0.mk (hbox); have GW863 := ge_ hg HB; have GE863 := ge_ hg HB; replace HB := bq_ HB hb; clear hb hbox hg) | ((with_reducible refine gate_dst (N := 4) rfl ?_); refine bx_ 4 #[.int .i64 0, .bool false, .int .u64 0, .int .i64 0] 30 ?_; intro gb864 hg w64 hbox hb; have BK864 := Aside0.mk (hbox); have GW864 := ge_ hg HB; have GE864 := ge_ hg HB; have NB863_864 := nb_ hg BK863; have NB864_863 := nc_ hg BK863; replace BK863 := kq_ BK863 hb; replace HB := bq_ HB hb; clear hb hbox hg; have hnb65 := NB863_864.out; have hnc65 := NB864_863.out; obtain ⟨hcz66_0, hcz66_1, hcz66_2, hcz66_3, hfz66_0, hfz66_1, hfz66_2, hfz66_3⟩ := c4_ BK863) | ((with_reducible refine gate_callee (f := 54) rfl ?_); refine gl_ (some 7) Tryd.func54 #[.agg #[.int .i64 a0_0, .bool a0_1, .int .u64 a0_2, .int .i64 a0_3]] ?_; (with_reducible refine (pelorusref05_fair.calls a0_0 a0_1 a0_2 a0_3 t865 t866 t867 t868 _ A3.out).mono ?_); rintro e w67 ⟨rfl, hb⟩; refine ⟨_, rfl, ?_⟩; replace BK863 := kq_ BK863 hb; replace BK864 := kq_ BK864 hb; replace HB := bq_ HB hb; (try clear hb); (try clear hb2); (try clear hk); (try clear hi)) | ((with_reducible refine gate_dst (N := 5) rfl ?_); refine bx_ 5 #[.int .i64 0, .bool false, .int .u64 0, .int .i64 0] 30 ?_; intro gb869 hg w68 hbox hb; have BK869 := Aside0.mk (hbox); have GW869 := ge_ hg HB; have GE869 := ge_ hg HB; have NB863_869 := nb_ hg BK863; have NB869_863 := nc_ hg BK863; have NB864_869 := nb_ hg BK864; have NB869_864 := nc_ hg BK864; replace BK863 := kq_ BK863 hb; replace BK864 := kq_ BK864 hb; replace HB := bq_ HB hb; clear hb hbox hg; have hnb69 := NB869_863.out; have hnc69 := NB863_869.out; have hnb70 := NB869_864.out; have hnc70 := NB864_869.out; obtain ⟨hcz71_0, hcz71_1, hcz71_2, hcz71_3, hfz71_0, hfz71_1, hfz71_2, hfz71_3⟩ := c4_ BK869) | ((with_reducible refine gate_callee (f := 46) rfl ?_); refine gl_ (some 51) Tryd.func46 #[.bool t866, .int .u64 18446744073709551615, .int .i64 (wrap64 (t868 - 1)), .bool false] ?_; (with_reducible refine (pelorusref05_finite.calls t866 18446744073709551615 (wrap64 (t868 - 1)) false t874 t875 t876 t877 _ A62.out).mono ?_); rintro e w72 ⟨rfl, hb⟩; refine ⟨_, rfl, ?_⟩; have n0_ := Aside0.mk (blk_below (g := gb863) (o := .cells #[.int .i64 a0_0, .bool a0_1, .int .u64 a0_2, .int .i64 a0_3] 30 (0, 0)) (by refine kb_ ?_; refine bf_ NB863_869 ?_; refine bf_ NB863_869 ?_; refine bf_ NB863_869 ?_; refine bf_ NB863_869 ?_; exact BK863.out) hb); have n1_ := Aside0.mk (blk_below (g := gb864) (o := .cells #[.int .i64 0, .bool false, .int .u64 0, .int .i64 0] 30 (0, 0)) (by refine kb_ ?_; refine bf_ NB864_869 ?_; refine bf_ NB864_869 ?_; refine bf_ NB864_869 ?_; refine bf_ NB864_869 ?_; exact BK864.out) hb); have n2_ := Aside0.mk (blk_below (g := gb869) (o := .cells #[.int .i64 t865, .bool t866, .int .u64 t867, .int .i64 t868] 30 (0, 0)) (by refine kb_ ?_; refine bp_ #[.int .i64 t865, .bool t866, .int .u64 t867, .int .i64 0] 3 ?_; refine bp_ #[.int .i64 t865, .bool t866, .int .u64 0, .int .i64 0] 2 ?_; refine bp_ #[.int .i64 t865, .bool false, .int .u64 0, .int .i64 0] 1 ?_; refine bp_ #[.int .i64 0, .bool false, .int .u64 0, .int .i64 0] 0 ?_; exact BK869.out) hb); have n3_ := bq_ HB hb; clear BK863; clear BK864; clear BK869; clear HB; have BK863 := n0_; have BK864 := n1_; have BK869 := n2_; have HB := n3_; clear n0_ n1_ n2_ n3_; (try clear hb); (try clear hb2); (try clear hk); (try clear hi); obtain ⟨hcz73_0, hcz73_1, hcz73_2, hcz73_3, hfz73_0, hfz73_1, hfz73_2, hfz73_3⟩ := c4_ BK864))
     refine bodyPost_ret (results_cell_row rfl _ _ gb864 30 #[.int .i64 t874, .bool t875, .int .u64 t876, .int .i64 t877] (0, 0) _ rfl (by refine kb_ ?_; refine bp_ #[.int .i64 t874, .bool t875, .int .u64 t876, .int .i64 0] 3 ?_; refine bp_ #[.int .i64 t874, .bool t875, .int .u64 0, .int .i64 0] 2 ?_; refine bp_ #[.int .i64 t874, .bool false, .int .u64 0, .int .i64 0] 1 ?_; refine bp_ #[.int .i64 0, .bool false, .int .u64 0, .int .i64 0] 0 ?_; exact BK864.out) Tryd.underlying30 rfl (by kernel_rfl)) rfl ?_
     exact ⟨rf_, bw_ HB.out⟩
    ·rw [if_neg c61] at H
     have c61b0 : (t867 == 9223372036854775808) = false := beq_eq_false_iff_ne.mpr c61
     have c61b1 : (t867 != 9223372036854775808) = true := bne_iff_ne.mpr c61
     simp only [Option.some.injEq, Prod.mk.injEq] at H
     obtain ⟨rfl, rfl, rfl, rfl⟩ := H
     go_enter Tryd.func31, Tryd.ntmps31
     go_wp2_with (first | ((with_reducible refine gate_dst (N := 2) rfl ?_); refine bx_ 2 #[.int .i64 a0_0, .bool a0_1, .int .u64 a0_2, .int .i64 a0_3] 30 ?_; intro gb863 hg w74 hbox hb; have BK863 := Aside0.mk (hbox); have GW863 := ge_ hg HB; have GE863 := ge_ hg HB; replace HB := bq_ HB hb; clear hb hbox hg) | ((with_reducible refine gate_dst (N := 4) rfl ?_); refine bx_ 4 #[.int .i64 0, .bool false, .int .u64 0, .int .i64 0] 30 ?_; intro gb864 hg w75 hbox hb; have BK864 := Aside0.mk (hbox); have GW864 := ge_ hg HB; have GE864 := ge_ hg HB; have NB863_864 := nb_ hg BK863; have NB864_863 := nc_ hg BK863; replace BK863 := kq_ BK863 hb; replace HB := bq_ HB hb; clear hb hbox hg; have hnb76 := NB863_864.out; have hnc76 := NB864_863.out; obtain ⟨hcz77_0, hcz77_1, hcz77_2, hcz77_3, hfz77_0, hfz77_1, hfz77_2, hfz77_3⟩ := c4_ BK863) | ((with_reducible refine gate_callee (f := 54) rfl ?_); refine gl_ (some 7) Tryd.func54 #[.agg #[.int .i64 a0_0, .bool a0_1, .int .u64 a0_2, .int .i64 a0_3]] ?_; (with_reducible refine (pelorusref05_fair.calls a0_0 a0_1 a0_2 a0_3 t865 t866 t867 t868 _ A3.out).mono ?_); rintro e w78 ⟨rfl, hb⟩; refine ⟨_, rfl, ?_⟩; replace BK863 := kq_ BK863 hb; replace BK864 := kq_ BK864 hb; replace HB := bq_ HB hb; (try clear hb); (try clear hb2); (try clear hk); (try clear hi)) | ((with_reducible refine gate_dst (N := 5) rfl ?_); refine bx_ 5 #[.int .i64 0, .bool false, .int .u64 0, .int .i64 0] 30 ?_; intro gb869 hg w79 hbox hb; have BK869 := Aside0.mk (hbox); have GW869 := ge_ hg HB; have GE869 := ge_ hg HB; have NB863_869 := nb_ hg BK863; have NB869_863 := nc_ hg BK863; have NB864_869 := nb_ hg BK864; have NB869_864 := nc_ hg BK864; replace BK863 := kq_ BK863 hb; replace BK864 := kq_ BK864 hb; replace HB := bq_ HB hb; clear hb hbox hg; have hnb80 := NB869_863.out; have hnc80 := NB863_869.out; have hnb81 := NB869_864.out; have hnc81 := NB864_869.out; obtain ⟨hcz82_0, hcz82_1, hcz82_2, hcz82_3, hfz82_0, hfz82_1, hfz82_2, hfz82_3⟩ := c4_ BK869; obtain ⟨hcz83_0, hcz83_1, hcz83_2, hcz83_3, hfz83_0, hfz83_1, hfz83_2, hfz83_3⟩ := c4_ BK864))
     refine bodyPost_ret (results_cell_row rfl _ _ gb864 30 #[.int .i64 t865, .bool t866, .int .u64 (IntKind.u64.wrap (t867 - 1)), .int .i64 t868] (0, 0) _ rfl (by refine kb_ ?_; refine bp_ #[.int .i64 t865, .bool t866, .int .u64 (IntKind.u64.wrap (t867 - 1)), .int .i64 0] 3 ?_; refine bp_ #[.int .i64 t865, .bool t866, .int .u64 0, .int .i64 0] 2 ?_; refine bp_ #[.int .i64 t865, .bool false, .int .u64 0, .int .i64 0] 1 ?_; refine bp_ #[.int .i64 0, .bool false, .int .u64 0, .int .i64 0] 0 ?_; refine bf_ NB864_869 ?_; refine bf_ NB864_869 ?_; refine bf_ NB864_869 ?_; refine bf_ NB864_869 ?_; refine bf_ NB864_869 ?_; exact BK864.out) Tryd.underlying30 rfl (by kernel_rfl)) rfl ?_
     exact ⟨rf_, bw_ HB.out⟩

end Go.Proofs.YtkemnoejpbknhaaDoor.PA
