-- Laid by this work's own program; Lean checks it.
import Derived.Test.YtkemnoejpbknhaaDoorPAx0
import Derived.Test.YtkemnoejpbknhaaDoorPAx2
import Derived.Test.YtkemnoejpbknhaaDoorPAx3
import Derived.Test.YtkemnoejpbknhaaDoorPAx4
import Derived.Test.YtkemnoejpbknhaaDoorPAx7
namespace Go.Proofs.YtkemnoejpbknhaaDoor.PA
open Go.RowKit Go.Proofs.YtkemnoejpbknhaaDoorW.PrintWords Go.Proofs.YtkemnoejpbknhaaDoorW.PrintLast Go.Proofs.YtkemnoejpbknhaaDoorW.PrintMore
attribute [local go_sem] max2_int min2_int max_two min_two max_three min_three max_four min_four   -- for this text's walks alone
set_option linter.unusedVariables false
set_option linter.unusedSimpArgs false

attribute [local go_sem ↓ high] isSome_set_
/-! ### num_Exact: function 25 -/
theorem num_Exact.tab3 : rtab .any (opsOf Tryd.f25 3) = num_Exact.T3 := by kernel_rfl
theorem num_Exact.bits3 : waitsOk num_Exact.T3.2 num_Exact.B3 = true := by kernel_rfl
set_option maxHeartbeats 8000000 in
set_option maxRecDepth 100000 in
theorem num_Exact.calls (k : Nat) (a0_0 : Int) (a0_1 : Bool) (a0_2 : Int) (a0_3 : Int) (r1 : Bool) (r2 : List Int) (r3 : Int) (r4 : Bool) (w : World) (h : num_Exact.f k a0_0 a0_1 a0_2 a0_3 = some (r1, r2, r3, r4)) (htab_ : Kd.C (Kd.int .u8) w (some ⟨0, 0, none⟩) 32 tz32tab) :
  Calls Tryd.prog 25 #[.agg #[.int .i64 a0_0, .bool a0_1, .int .u64 a0_2, .int .i64 a0_3]] w fun e w' => ∃ v1_ : Value, e = .returned (.tuple #[.agg #[.bool r1, v1_, .int .i64 r3], .bool r4]) ∧ Kd.R (Kd.int .u32) 53 w' w.heap.size (fun _ => True) v1_ r2 ∧ Below w.heap.size w w' := by
 have HTAB := Aside0.mk htab_
 clear htab_
 have hu30 := Tryd.underlying30
 have hu26 := Tryd.underlying26
 have HB := Aside0.mk (Below.refl w.heap.size w)
 have H : ((num_May.f a0_0 a0_1 a0_2 a0_3).bind fun t817 => (if t817 = true then (num_Exact.j0 k (a0_0 == 2) a0_0 a0_1 a0_2 a0_3) else (num_Exact.j0 k true a0_0 a0_1 a0_2 a0_3))) = some (r1, r2, r3, r4) := h
 clear h
 have HC2 := Aside0.mk H
 clear H
 go_enter Tryd.func25, Tryd.ntmps25
 go_upto_region 1 with (first | ((with_reducible refine gate_dst (N := 1) rfl ?_); refine bx_ 1 #[.int .i64 a0_0, .bool a0_1, .int .u64 a0_2, .int .i64 a0_3] 30 ?_; intro gb815 hg w3 hbox hb; have BK815 := Aside0.mk (hbox); have GW815 := ge_ hg HB; have GE815 := ge_ hg HB; replace HB := bq_ HB hb; clear hb hbox hg) | ((with_reducible refine gate_dst (N := 2) rfl ?_); refine bx_ 2 #[.bool false, .slice none 0 0, .int .i64 0] 26 ?_; intro gb816 hg w4 hbox hb; have BK816 := Aside0.mk (hbox); have GW816 := ge_ hg HB; have GE816 := ge_ hg HB; have NB815_816 := nb_ hg BK815; have NB816_815 := nc_ hg BK815; replace BK815 := kq_ BK815 hb; replace HB := bq_ HB hb; clear hb hbox hg))
 (try simp only [Act.put, List.setIfInBounds_toArray, List.set_cons_zero, List.set_cons_succ])
 go_cut [11] (fun v11 wc => ∃ (kq : Nat) (x11_1 : Bool), v11 = .bool x11_1 ∧ Aside0 (num_Exact.j0 kq x11_1 a0_0 a0_1 a0_2 a0_3 = some (r1, r2, r3, r4)) ∧ Aside0 (kq ≤ k) ∧ Aside0 (wc.heap[gb815]? = some (.cells #[.int .i64 a0_0, .bool a0_1, .int .u64 a0_2, .int .i64 a0_3] 30 (0, 0))) ∧ Aside0 (wc.heap[gb816]? = some (.cells #[.bool false, (.slice none 0 0), .int .i64 0] 26 (0, 0))) ∧ Aside0 (Below w.heap.size w wc))
 case first =>
  have H := HC2.out
  clear HC2
  replace H := Option.bind_eq_some_iff.mp H
  obtain ⟨t817, A50, H⟩ := H
  (try dsimp only at H)
  have A5 := Aside0.mk A50
  clear A50
  by_cases c6 : t817 = true
  ·subst c6
   have H1 : (num_Exact.j0 k (a0_0 == 2) a0_0 a0_1 a0_2 a0_3) = some (r1, r2, r3, r4) := by rw [if_pos rfl] at H; exact H
   clear H
   have H := H1
   clear H1
   have H' := Aside0.mk H
   clear H
   have hnb7 := NB815_816.out
   have hnc7 := NB816_815.out
   obtain ⟨hcz8_0, hcz8_1, hcz8_2, hcz8_3, hfz8_0, hfz8_1, hfz8_2, hfz8_3⟩ := c4_ BK815
   go_wp2_with (first | ((with_reducible refine gate_callee (f := 14) rfl ?_); refine gl_ (some 5) Tryd.func14 #[.agg #[.int .i64 a0_0, .bool a0_1, .int .u64 a0_2, .int .i64 a0_3]] ?_; (with_reducible refine (num_May.calls a0_0 a0_1 a0_2 a0_3 true _ A5.out).mono ?_); rintro e w9 ⟨rfl, hb⟩; refine ⟨_, rfl, ?_⟩; replace BK815 := kq_ BK815 hb; replace BK816 := kq_ BK816 hb; replace HB := bq_ HB hb; (try clear hb); (try clear hb2); (try clear hk); (try clear hi); obtain ⟨hcz10_0, hcz10_1, hcz10_2, hcz10_3, hfz10_0, hfz10_1, hfz10_2, hfz10_3⟩ := c4_ BK815))
   go_meet
   case rel => exact ⟨_, ((a0_0 == 2)), (by first | rfl | (simp; done) | (simp [*]; done)), H', ⟨by first | omega | exact Nat.le_refl _⟩, ⟨kb_ BK815.out⟩, ⟨kb_ BK816.out⟩, ⟨bw_ HB.out⟩⟩
  ·replace c6 := Bool.eq_false_iff.mpr c6
   subst c6
   have H1 : (num_Exact.j0 k true a0_0 a0_1 a0_2 a0_3) = some (r1, r2, r3, r4) := by rw [if_neg (show ¬ (false = true) by decide)] at H; exact H
   clear H
   have H := H1
   clear H1
   have H' := Aside0.mk H
   clear H
   have hnb11 := NB815_816.out
   have hnc11 := NB816_815.out
   obtain ⟨hcz12_0, hcz12_1, hcz12_2, hcz12_3, hfz12_0, hfz12_1, hfz12_2, hfz12_3⟩ := c4_ BK815
   go_wp2_with (first | ((with_reducible refine gate_callee (f := 14) rfl ?_); refine gl_ (some 5) Tryd.func14 #[.agg #[.int .i64 a0_0, .bool a0_1, .int .u64 a0_2, .int .i64 a0_3]] ?_; (with_reducible refine (num_May.calls a0_0 a0_1 a0_2 a0_3 false _ A5.out).mono ?_); rintro e w13 ⟨rfl, hb⟩; refine ⟨_, rfl, ?_⟩; replace BK815 := kq_ BK815 hb; replace BK816 := kq_ BK816 hb; replace HB := bq_ HB hb; (try clear hb); (try clear hb2); (try clear hk); (try clear hi)))
   go_meet
   case rel => exact ⟨_, (true), (by first | rfl | (simp; done) | (simp [*]; done)), H', ⟨by first | omega | exact Nat.le_refl _⟩, ⟨kb_ BK815.out⟩, ⟨kb_ BK816.out⟩, ⟨bw_ HB.out⟩⟩
 case rest =>
  clear HC2
  try clear c1
  try clear c2
  try clear p2
  try clear c6
  try clear c7
  try clear c11
  try clear hcz10_0 hcz10_1 hcz10_2 hcz10_3
  try clear hcz12_0 hcz12_1 hcz12_2 hcz12_3
  try clear hcz8_0 hcz8_1 hcz8_2 hcz8_3
  try clear hfz10_0 hfz10_1 hfz10_2 hfz10_3
  try clear hfz12_0 hfz12_1 hfz12_2 hfz12_3
  try clear hfz8_0 hfz8_1 hfz8_2 hfz8_3
  obtain ⟨kq, x11_1, rfl, HA, HJ1, BK815, BK816, HB⟩ := hcut
  cases kq with
  | zero => exact absurd HA.out (by simp [num_Exact.j0])
  | succ kj1 =>
   have H := HA.out
   clear HA
   simp only [num_Exact.j0] at H
   by_cases c14 : x11_1 = true
   ·subst c14
    have H1 : (some (false, ([] : List Int), 0, false)) = some (r1, r2, r3, r4) := by rw [if_pos rfl] at H; exact H
    clear H
    have H := H1
    clear H1
    simp only [Option.some.injEq, Prod.mk.injEq] at H
    obtain ⟨rfl, rfl, rfl, rfl⟩ := H
    have hnb15 := NB816_815.out
    have hnc15 := NB815_816.out
    obtain ⟨hcz16_0, hcz16_1, hcz16_2, hfz16_0, hfz16_1, hfz16_2⟩ := c3_ BK816
    go_wp2
    refine bodyPost_ret (results_ct rfl _ _ gb816 26 #[.bool false, .slice none 0 0, .int .i64 0] (0, 0) _ rfl (by refine kb_ ?_; refine bp_ #[.bool false, .slice none 0 0, .int .i64 0] 2 ?_; refine bp_ #[.bool false, .slice none 0 0, .int .i64 0] 1 ?_; refine bp_ #[.bool false, .slice none 0 0, .int .i64 0] 0 ?_; exact BK816.out) Tryd.underlying26 rfl (by kernel_rfl)) rfl ?_
    exact ⟨_, rf_, by first | exact Kd.R_nil _ _ _ _ _ | exact Kd.N_nil _ _ _ _ _ | exact Kd.V_nil _ _ _ _ _ | exact Kd.Q_nil _ _ _ _ _ | exact Kd.S_nil _ _ _ _ _, bw_ HB.out⟩
   ·replace c14 := Bool.eq_false_iff.mpr c14
    subst c14
    have H1 : ((whole_Make.f kj1 a0_1 (([(a0_2) % 4294967296, (a0_2 / 4294967296) % 4294967296] : List Int))).bind fun bt821 => ((dy_Make.f kj1 bt821.1 bt821.2 a0_3).bind fun bt825 => (some (bt825.1, bt825.2.1, bt825.2.2, true)))) = some (r1, r2, r3, r4) := by rw [if_neg (show ¬ (false = true) by decide)] at H; exact H
    clear H
    have H := H1
    clear H1
    obtain ⟨y818, hy818⟩ : ∃ y_ : List Int, y_ = (([(a0_2) % 4294967296, (a0_2 / 4294967296) % 4294967296] : List Int)) := ⟨_, rfl⟩
    replace H : ((whole_Make.f kj1 a0_1 y818).bind fun bt821 => ((dy_Make.f kj1 bt821.1 bt821.2 a0_3).bind fun bt825 => (some (bt825.1, bt825.2.1, bt825.2.2, true)))) = some (r1, r2, r3, r4) := by first | (rw [hy818]; with_reducible exact H) | (have H2_ := (Option.bind_some _ _).symm.trans H; rw [hy818]; with_reducible exact H2_) | (have H2_ := (Option.bind_some _ _).symm.trans H; with_reducible exact H2_) | with_reducible exact H | (rw [hy818]; exact H) | exact H
    have Ny818 := Aside0.mk hy818
    clear hy818
    replace H := Option.bind_eq_some_iff.mp H
    obtain ⟨⟨t821, t822⟩, A170, H⟩ := H
    (try dsimp only at H)
    have A17 := Aside0.mk A170
    clear A170
    replace H := Option.bind_eq_some_iff.mp H
    obtain ⟨⟨t825, t826, t829⟩, A180, H⟩ := H
    (try dsimp only at H)
    have A18 := Aside0.mk A180
    clear A180
    simp only [Option.some.injEq, Prod.mk.injEq] at H
    obtain ⟨rfl, rfl, rfl, rfl⟩ := H
    try go_wp2
    replace BK815 := Aside0.mk (blk_drew BK815.out)
    replace BK816 := Aside0.mk (blk_drew BK816.out)
    replace HB := Aside0.mk (below_drew1 HB.out)
    refine start_ (n := 16) (S := fun w' => w'.cell? ⟨gb815, 0, none⟩ = some (.int .i64 a0_0) ∧ w'.cell? ⟨gb815, 1, none⟩ = some (.bool a0_1) ∧ w'.cell? ⟨gb815, 2, none⟩ = some (.int .u64 a0_2) ∧ w'.cell? ⟨gb815, 3, none⟩ = some (.int .i64 a0_3)) (ds := []) #[false, false, false, false, false, false, false, false, false, false, false, false, false, false, false, false] (by kernel_rfl) rfl rfl ⟨(blk_cell BK815.out 0).trans rfl, (blk_cell BK815.out 1).trans rfl, (blk_cell BK815.out 2).trans rfl, (blk_cell BK815.out 3).trans rfl⟩ (fun hHeld => ?_); refine with_tabW num_Exact.tab3 num_Exact.bits3 (fun HT_ HW_ => ?_)
    generalize wc.drew = w19 at BK815 BK816 HB hHeld ⊢
    refine pure_ (i := 0) (N := some 13) (v := ?_) (a' := ?_) #[true, false, false, false, false, false, false, false, false, false, false, false, false, false, false, false] rfl rfl (any_of HT_.out (by kernel_rfl)) (fun _ _ _ h => h) (Or.inl ⟨by rfl, ?_⟩) ?_ ?_
    rotate_left
    ·intro w'
     go_simp
     with_reducible rfl
    rotate_left
    ·exact pt_
    refine pure_ (i := 2) (N := some 15) (v := ?_) (a' := ?_) #[true, false, true, false, false, false, false, false, false, false, false, false, false, false, false, false] rfl rfl (any_of HT_.out (by kernel_rfl)) (fun _ _ _ h => h) (Or.inl ⟨by rfl, ?_⟩) ?_ ?_
    rotate_left
    ·intro w'
     go_simp
     with_reducible rfl
    rotate_left
    ·exact pt_
    refine pure_ (i := 5) (N := some 18) (v := ?_) (a' := ?_) #[true, false, true, false, false, true, false, false, false, false, false, false, false, false, false, false] rfl rfl (any_of HT_.out (by kernel_rfl)) (fun _ _ _ h => h) (Or.inl ⟨by rfl, ?_⟩) ?_ ?_
    rotate_left
    ·intro w'
     go_simp
     with_reducible rfl
    rotate_left
    ·exact pt_
    refine pure_ (i := 11) (N := some 24) (v := ?_) (a' := ?_) #[true, false, true, false, false, true, false, false, false, false, false, true, false, false, false, false] rfl rfl (any_of HT_.out (by kernel_rfl)) (fun _ _ _ h => h) (Or.inl ⟨by rfl, ?_⟩) ?_ ?_
    rotate_left
    ·intro w'
     go_simp
     with_reducible rfl
    rotate_left
    ·exact pt_
    refine take_ (i := 1) (N := some 14) (v := ?_) (a' := ?_) #[true, true, true, false, false, true, false, false, false, false, false, true, false, false, false, false] rfl rfl (take_ofW HT_.out HW_.out (by kernel_rfl)) (fun _ _ _ h => h) (Or.inl ⟨by rfl, ?_⟩) hHeld ?_ ?_
    rotate_left
    ·rintro w' ⟨s0, s1, s2, s3⟩
     go_simp
     with_reducible rfl
    rotate_left
    ·exact pt_
    refine take_ (i := 3) (N := some 16) (v := ?_) (a' := ?_) #[true, true, true, true, false, true, false, false, false, false, false, true, false, false, false, false] rfl rfl (take_ofW HT_.out HW_.out (by kernel_rfl)) (fun _ _ _ h => h) (Or.inl ⟨by rfl, ?_⟩) hHeld ?_ ?_
    rotate_left
    ·rintro w' ⟨s0, s1, s2, s3⟩
     go_simp
     with_reducible rfl
    rotate_left
    ·exact pt_
    refine pure_ (i := 4) (N := some 17) (v := ?_) (a' := ?_) #[true, true, true, true, true, true, false, false, false, false, false, true, false, false, false, false] rfl rfl (any_of HT_.out (by kernel_rfl)) (fun _ _ _ h => h) (Or.inl ⟨by rfl, ?_⟩) ?_ ?_
    rotate_left
    ·intro w'
     go_simp
     with_reducible rfl
    rotate_left
    ·exact pt_
    refine take_ (i := 6) (N := some 19) (v := ?_) (a' := ?_) #[true, true, true, true, true, true, true, false, false, false, false, true, false, false, false, false] rfl rfl (take_ofW HT_.out HW_.out (by kernel_rfl)) (fun _ _ _ h => h) (Or.inl ⟨by rfl, ?_⟩) hHeld ?_ ?_
    rotate_left
    ·rintro w' ⟨s0, s1, s2, s3⟩
     go_simp
     with_reducible rfl
    rotate_left
    ·exact pt_
    refine pure_ (i := 7) (N := some 20) (v := ?_) (a' := ?_) #[true, true, true, true, true, true, true, true, false, false, false, true, false, false, false, false] rfl rfl (any_of HT_.out (by kernel_rfl)) (fun _ _ _ h => h) (Or.inl ⟨by rfl, ?_⟩) ?_ ?_
    rotate_left
    ·intro w'
     go_simp
     with_reducible rfl
    rotate_left
    ·exact pt_
    refine pure_ (i := 8) (N := some 21) (v := ?_) (a' := ?_) #[true, true, true, true, true, true, true, true, true, false, false, true, false, false, false, false] rfl rfl (any_of HT_.out (by kernel_rfl)) (fun _ _ _ h => h) (Or.inl ⟨by rfl, ?_⟩) ?_ ?_
    rotate_left
    ·intro w'
     go_simp
     with_reducible rfl
    rotate_left
    ·exact pt_
    refine take_ (i := 12) (N := some 25) (v := ?_) (a' := ?_) #[true, true, true, true, true, true, true, true, true, false, false, true, true, false, false, false] rfl rfl (take_ofW HT_.out HW_.out (by kernel_rfl)) (fun _ _ _ h => h) (Or.inl ⟨by rfl, ?_⟩) hHeld ?_ ?_
    rotate_left
    ·rintro w' ⟨s0, s1, s2, s3⟩
     go_simp
     with_reducible rfl
    rotate_left
    ·exact pt_
    refine one_ (i := 9) (N := some 22) #[true, true, true, true, true, true, true, true, true, true, false, true, true, false, false, false] rfl rfl (one_of HT_.out (by kernel_rfl)) (by decide) (fun K hK => ?_)
    refine Kd.R_lit_step (Kd.int .u32) _ 53 ?hg (N := 22) ?hd (xs := ([(a0_2) % 4294967296, (a0_2 / 4294967296) % 4294967296] : List Int)) (inner := [.int .u32 ((a0_2) % 4294967296), .int .u32 ((a0_2 / 4294967296) % 4294967296)]) (ok := fun _ => True) (okp := fun _ => True) ?hr ?hp (fun _ hk => hk) trivial (Below.refl _ _) (Nat.le_refl _) (by simp) ?_; (case hd => rfl); (case hg => rfl); (case hr => first | (go_simp; done) | (go_simp; rfl)); (case hp => exact (Reps.one (show Kd.M (Kd.int .u32) _ _ _ ((a0_2) % 4294967296) [.int .u32 ((a0_2) % 4294967296)] from rfl) (Reps.one (show Kd.M (Kd.int .u32) _ _ _ ((a0_2 / 4294967296) % 4294967296) [.int .u32 ((a0_2 / 4294967296) % 4294967296)] from rfl) (Reps.none _ _))))
    intro v819 w20 ho21 hb hg_ hnew_
    clear hg_ hnew_
    (first | rw [← Ny818.out] at ho21 | (simp only [Int.reduceToNat] at ho21; rw [← Ny818.out] at ho21))
    have HO820 := Aside0.mk (Kd.R_lower ho21 (below_size (bw_ HB.out)))
    replace BK815 := kq_ BK815 hb
    replace BK816 := kq_ BK816 hb
    replace HB := bq_ HB hb
    clear hb ho21
    obtain ⟨Ao22, co22, eo22⟩ := Kd.R_slice HO820.out
    (first | subst eo22 | (injection eo22 with f1_ f2_ f3_; have f4_ := f1_.symm; have f5_ := f3_.symm; clear f1_ f2_ f3_; subst f4_; subst f5_))
    refine hK.out _ _ ⟨(blk_cell BK815.out 0).trans rfl, (blk_cell BK815.out 1).trans rfl, (blk_cell BK815.out 2).trans rfl, (blk_cell BK815.out 3).trans rfl⟩ (fun hHeld => ?_)
    clear hK K
    refine norm_ (a' := ?_) ?_ ?_
    rotate_left
    ·show Act.put _ (some 22) _ = _
     exact pt_
    refine one_ (i := 10) (N := some 23) #[true, true, true, true, true, true, true, true, true, true, true, true, true, false, false, false] rfl rfl (one_of HT_.out (by kernel_rfl)) (by decide) (fun K hK => ?_)
    refine gs_ Tryd.func59 #[.bool a0_1, .slice Ao22 y818.length co22] ?_
    with_reducible refine (whole_Make.calls kj1 a0_1 _ _ y818 t821 t822 _ ?side1 ?side2 A17.out).mono ?_
    (case side1 => exact kc_ (Kd.R_reads' HO820.out).2.2)
    (case side2 => exact (Kd.R_reads' HO820.out).2.1)
    rintro e w23 ⟨v823, rfl, ho0, hb⟩
    refine ⟨_, rfl, ?_⟩
    have HO824 := Aside0.mk (Kd.R_lower (Kd.R_new' ho0 (Kd.R_lt (kr_ HO820.out))) (below_size (bw_ HB.out)))
    replace HO820 := Aside0.mk (Kd.R_elder' (kr_ HO820.out) (Kd.R_base ho0) hb)
    replace BK815 := kq_ BK815 hb
    replace BK816 := kq_ BK816 hb
    replace HB := bq_ HB hb
    (try clear hb)
    (try clear hb2)
    (try clear hk)
    (try clear hi)
    (try clear ho0)
    obtain ⟨Ao24, co24, eo24⟩ := Kd.R_slice HO824.out
    (first | subst eo24 | (injection eo24 with f1_ f2_ f3_; have f4_ := f1_.symm; have f5_ := f3_.symm; clear f1_ f2_ f3_; subst f4_; subst f5_))
    refine hK.out _ _ ⟨(blk_cell BK815.out 0).trans rfl, (blk_cell BK815.out 1).trans rfl, (blk_cell BK815.out 2).trans rfl, (blk_cell BK815.out 3).trans rfl⟩ (fun hHeld => ?_)
    clear hK K
    refine norm_ (a' := ?_) ?_ ?_
    rotate_left
    ·show Act.put _ (some 23) _ = _
     exact pt_
    refine one_ (i := 13) (N := some 26) #[true, true, true, true, true, true, true, true, true, true, true, true, true, true, false, false] rfl rfl (one_of HT_.out (by kernel_rfl)) (by decide) (fun K hK => ?_)
    refine gs_ Tryd.func58 #[.agg #[.bool t821, .slice Ao24 t822.length co24], .int .i64 a0_3] ?_
    with_reducible refine (dy_Make.calls kj1 t821 _ _ t822 a0_3 t825 t826 t829 _ ?side1 ?side2 A18.out ?sidet).mono ?_
    (case sidet => exact Kd.C_below HTAB.out (bw_ HB.out))
    (case side1 => exact kc_ (Kd.R_reads' HO824.out).2.2)
    (case side2 => exact (Kd.R_reads' HO824.out).2.1)
    rintro e w25 ⟨v827, rfl, ho0, hb⟩
    refine ⟨_, rfl, ?_⟩
    have HO828 := Aside0.mk (Kd.R_lower (Kd.R_new' (Kd.R_new' ho0 (Kd.R_lt (kr_ HO820.out))) (Kd.R_lt (kr_ HO824.out))) (below_size (bw_ HB.out)))
    replace HO820 := Aside0.mk (Kd.R_elder' (kr_ HO820.out) (Kd.R_base ho0) hb)
    replace HO824 := Aside0.mk (Kd.R_elder' (kr_ HO824.out) (Kd.R_base ho0) hb)
    replace BK815 := kq_ BK815 hb
    replace BK816 := kq_ BK816 hb
    replace HB := bq_ HB hb
    (try clear hb)
    (try clear hb2)
    (try clear hk)
    (try clear hi)
    (try clear ho0)
    obtain ⟨Ao27, co27, eo27⟩ := Kd.R_slice HO828.out
    (first | subst eo27 | (injection eo27 with f1_ f2_ f3_; have f4_ := f1_.symm; have f5_ := f3_.symm; clear f1_ f2_ f3_; subst f4_; subst f5_))
    refine hK.out _ _ ⟨(blk_cell BK815.out 0).trans rfl, (blk_cell BK815.out 1).trans rfl, (blk_cell BK815.out 2).trans rfl, (blk_cell BK815.out 3).trans rfl⟩ (fun hHeld => ?_)
    clear hK K
    refine norm_ (a' := ?_) ?_ ?_
    rotate_left
    ·show Act.put _ (some 26) _ = _
     exact pt_
    refine one_ (i := 14) (N := none) #[true, true, true, true, true, true, true, true, true, true, true, true, true, true, true, false] rfl rfl (one_of HT_.out (by kernel_rfl)) (by decide) (fun K hK => ?_)
    have hs26 : w25.cell? ⟨gb816, 0, none⟩ = some (.bool false) := (blk_cell BK816.out 0).trans rfl
    have hfs26 := fz_ BK816 0
    have hns26_0 := NB815_816.out
    have hms26_0 := NB816_815.out
    have hs28 : w25.cell? ⟨gb816, 1, none⟩ = some (.slice none 0 0) := (blk_cell BK816.out 1).trans rfl
    have hfs28 := fz_ BK816 1
    have hns28_0 := NB815_816.out
    have hms28_0 := NB816_815.out
    have hs29 : w25.cell? ⟨gb816, 2, none⟩ = some (.int .i64 0) := (blk_cell BK816.out 2).trans rfl
    have hfs29 := fz_ BK816 2
    have hns29_0 := NB815_816.out
    have hms29_0 := NB816_815.out
    refine skip_ (w1 := ?_) (by rfl) rfl ?_ ?_
    rotate_left
    ·go_simp
     rfl
    refine hK.out _ _ ⟨((cell_far (p := ⟨gb816, _, none⟩) NB815_816.out _).trans (((cell_far (p := ⟨gb816, _, none⟩) NB815_816.out _).trans (((cell_far (p := ⟨gb816, _, none⟩) NB815_816.out _).trans (hHeld.1)))))), ((cell_far (p := ⟨gb816, _, none⟩) NB815_816.out _).trans (((cell_far (p := ⟨gb816, _, none⟩) NB815_816.out _).trans (((cell_far (p := ⟨gb816, _, none⟩) NB815_816.out _).trans (hHeld.2.1)))))), ((cell_far (p := ⟨gb816, _, none⟩) NB815_816.out _).trans (((cell_far (p := ⟨gb816, _, none⟩) NB815_816.out _).trans (((cell_far (p := ⟨gb816, _, none⟩) NB815_816.out _).trans (hHeld.2.2.1)))))), ((cell_far (p := ⟨gb816, _, none⟩) NB815_816.out _).trans (((cell_far (p := ⟨gb816, _, none⟩) NB815_816.out _).trans (((cell_far (p := ⟨gb816, _, none⟩) NB815_816.out _).trans (hHeld.2.2.2))))))⟩ (fun hHeld => ?_)
    clear hK K
    refine pure_ (i := 15) (N := some 3) (v := ?_) (a' := ?_) #[true, true, true, true, true, true, true, true, true, true, true, true, true, true, true, true] rfl rfl (any_of HT_.out (by kernel_rfl)) (fun _ _ _ h => h) (Or.inl ⟨by rfl, ?_⟩) ?_ ?_
    rotate_left
    ·intro w'
     go_simp
     with_reducible rfl
    rotate_left
    ·exact pt_
    refine done_ (done_of HT_.out (by kernel_rfl)) ?_
    try go_wp2
    refine bodyPost_ret (results_ct rfl _ _ gb816 26 #[.bool t825, .slice Ao27 t826.length co27, .int .i64 t829] (0, 0) _ rfl (by refine kb_ ?_; refine bp_ #[.bool t825, .slice Ao27 t826.length co27, .int .i64 0] 2 ?_; refine bp_ #[.bool t825, .slice none 0 0, .int .i64 0] 1 ?_; refine bp_ #[.bool false, .slice none 0 0, .int .i64 0] 0 ?_; exact BK816.out) Tryd.underlying26 rfl (by kernel_rfl)) rfl ?_
    exact ⟨_, rf_, by (with_reducible repeat (first | apply Kd.R_alloc | apply Kd.R_drewN | apply Kd.R_drew)); exact Kd.R_mono (Kd.R_far (p := ⟨gb816, 2, none⟩) (Kd.R_far (p := ⟨gb816, 1, none⟩) (Kd.R_far (p := ⟨gb816, 0, none⟩) (Kd.R_types HO828.out BK816.out (by decide)) (fun _ hk => hk.2) (.bool t825)) (fun _ hk => hk.2) (.slice Ao27 t826.length co27)) (fun _ hk => hk.2) (.int .i64 t829)) (fun _ hk => trivial), bw_ HB.out⟩

end Go.Proofs.YtkemnoejpbknhaaDoor.PA
