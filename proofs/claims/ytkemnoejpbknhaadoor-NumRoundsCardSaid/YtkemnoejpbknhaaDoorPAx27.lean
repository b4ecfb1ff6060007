-- Laid by this work's own program; Lean checks it.
import Derived.Test.YtkemnoejpbknhaaDoorPAx0
import Derived.Test.YtkemnoejpbknhaaDoorPAx1
import Derived.Test.YtkemnoejpbknhaaDoorPAx2
import Derived.Test.YtkemnoejpbknhaaDoorPAx5
import Derived.Test.YtkemnoejpbknhaaDoorPAx7
import Derived.Test.YtkemnoejpbknhaaDoorPAx17
import Derived.Test.YtkemnoejpbknhaaDoorPAx26
namespace Go.Proofs.YtkemnoejpbknhaaDoor.PA
open Go.RowKit Go.Proofs.YtkemnoejpbknhaaDoorW.PrintWords Go.Proofs.YtkemnoejpbknhaaDoorW.PrintLast Go.Proofs.YtkemnoejpbknhaaDoorW.PrintMore
attribute [local go_sem] max2_int min2_int max_two min_two max_three min_three max_four min_four   -- for this text's walks alone
set_option linter.unusedVariables false
set_option linter.unusedSimpArgs false

attribute [local go_sem ↓ high] isSome_set_
attribute [local go_sem high] eqA30
/-! ### peloruslaw05_NumRounds: function 3 -/
theorem peloruslaw05_NumRounds.tab5 : rtab .any (opsOf Tryd.f3 5) = peloruslaw05_NumRounds.T5 := by kernel_rfl
theorem peloruslaw05_NumRounds.bits5 : waitsOk peloruslaw05_NumRounds.T5.2 peloruslaw05_NumRounds.B5 = true := by kernel_rfl
set_option maxHeartbeats 8000000 in
set_option maxRecDepth 100000 in
theorem peloruslaw05_NumRounds.calls (k : Nat) (a0_0 : Bool) (A0_1 : Option Addr) (c0_1 : Nat) (l0_1 : List Int) (a0_2 : Int) (a1 : Bool) (r : Bool) (w : World) (hr0_1 : Kd.C (Kd.int .u32) w A0_1 l0_1.length l0_1) (hc0_1 : l0_1.length ≤ c0_1) (hr_ : r = true) (haw_ : ∀ r, peloruslaw05_awake.f k = some r → r = true) (h : peloruslaw05_NumRounds.f k a0_0 l0_1 a0_2 a1 = some r) (htab_ : Kd.C (Kd.int .u8) w (some ⟨0, 0, none⟩) 32 tz32tab) :
  Calls Tryd.prog 3 #[.agg #[.bool a0_0, .slice A0_1 l0_1.length c0_1, .int .i64 a0_2], .bool a1] w fun e w' => e = .returned (.bool r) ∧ Below w.heap.size w w' := by
 have HTAB := Aside0.mk htab_
 clear htab_
 have HRT_ := Aside0.mk hr_
 clear hr_
 have HAW_ := Aside0.mk haw_
 clear haw_
 have hu26 := Tryd.underlying26
 have hu30 := Tryd.underlying30
 have HR0_1 := Aside0.mk hr0_1
 have HC0_1 := Aside0.mk hc0_1
 clear hr0_1 hc0_1
 have HB := Aside0.mk (Below.refl w.heap.size w)
 have H : ((peloruslaw05_awake.f k).bind fun t478 => (if t478 = true then (peloruslaw05_NumRounds.j0 k a1 t478 (decide ((l0_1.length : Int) > 20)) a0_0 l0_1 a0_2) else (peloruslaw05_NumRounds.j0 k a1 t478 true a0_0 l0_1 a0_2))) = some r := h
 clear h
 replace H := Option.bind_eq_some_iff.mp H
 obtain ⟨t478, A30, H⟩ := H
 (try dsimp only at H)
 have A3 := Aside0.mk A30
 clear A30
 have HC4 := Aside0.mk H
 clear H
 go_enter Tryd.func3, Tryd.ntmps3
 go_upto_region 2 with (first | ((with_reducible refine gate_dst (N := 2) rfl ?_); (try (refine gate_guard (by rfl) ?_; dsimp only)); refine bx_ 2 #[.bool a0_0, .slice A0_1 l0_1.length c0_1, .int .i64 a0_2] 26 ?_; intro gb477 hg w5 hbox hb; have BK477 := Aside0.mk (hbox); have GW477 := ge_ hg HB; have GE477 := ge_ hg HB; replace HB := bq_ HB hb; clear hb hbox hg) | ((with_reducible refine gate_callee (f := 11) rfl ?_); refine gl_ (some 7) Tryd.func11 #[] ?_; (with_reducible refine (peloruslaw05_awake.calls k  t478 _ (HAW_.out _ A3.out) A3.out ?sidet).mono ?_); (case sidet => exact Kd.C_below HTAB.out (bw_ HB.out)); rintro e w6 ⟨rfl, hb⟩; refine ⟨_, rfl, ?_⟩; replace BK477 := kq_ BK477 hb; replace HB := bq_ HB hb; (try clear hb); (try clear hb2); (try clear hk); (try clear hi)))
 (try simp only [Act.put, List.setIfInBounds_toArray, List.set_cons_zero, List.set_cons_succ])
 go_cut [16] (fun v16 wc => ∃ (kq : Nat) (x16_3 : Bool), v16 = .bool x16_3 ∧ Aside0 (peloruslaw05_NumRounds.j0 kq a1 t478 x16_3 a0_0 l0_1 a0_2 = some r) ∧ Aside0 (kq ≤ k) ∧ Aside0 (wc.heap[gb477]? = some (.cells #[.bool a0_0, (.slice A0_1 l0_1.length c0_1), .int .i64 a0_2] 26 (0, 0))) ∧ Aside0 (Below w.heap.size w wc))
 case first =>
  have H := HC4.out
  clear HC4
  by_cases c7 : t478 = true
  ·subst c7
   have H1 : (peloruslaw05_NumRounds.j0 k a1 true (decide ((l0_1.length : Int) > 20)) a0_0 l0_1 a0_2) = some r := by rw [if_pos rfl] at H; exact H
   clear H
   have H := H1
   clear H1
   have H' := Aside0.mk H
   clear H
   obtain ⟨hcz8_0, hcz8_1, hcz8_2, hfz8_0, hfz8_1, hfz8_2⟩ := c3_ BK477
   go_wp2
   go_meet
   case rel => exact ⟨_, (decide ((l0_1.length : Int) > 20)), (by first | rfl | (simp; done) | (simp [*]; done)), H', ⟨by first | omega | exact Nat.le_refl _⟩, ⟨kb_ BK477.out⟩, ⟨bw_ HB.out⟩⟩
  ·replace c7 := Bool.eq_false_iff.mpr c7
   subst c7
   have H1 : (peloruslaw05_NumRounds.j0 k a1 false true a0_0 l0_1 a0_2) = some r := by rw [if_neg (show ¬ (false = true) by decide)] at H; exact H
   clear H
   have H := H1
   clear H1
   have H' := Aside0.mk H
   clear H
   go_wp2
   go_meet
   case rel => exact ⟨_, (true), (by first | rfl | (simp; done) | (simp [*]; done)), H', ⟨by first | omega | exact Nat.le_refl _⟩, ⟨kb_ BK477.out⟩, ⟨bw_ HB.out⟩⟩
 case rest =>
  clear HC4
  try clear c1
  try clear p2
  try clear c3
  try clear c7
  try clear hcz8_0 hcz8_1 hcz8_2
  try clear hfz8_0 hfz8_1 hfz8_2
  obtain ⟨kq, x16_3, rfl, HA, HJ3, BK477, HB⟩ := hcut
  cases kq with
  | zero => exact absurd HA.out (by simp [peloruslaw05_NumRounds.j0])
  | succ kj3 =>
   have H := HA.out
   clear HA
   simp only [peloruslaw05_NumRounds.j0] at H
   by_cases c9 : x16_3 = true
   ·subst c9
    have H1 : (some t478) = some r := by rw [if_pos rfl] at H; exact H
    clear H
    have H := H1
    clear H1
    obtain rfl := Option.some.inj H
    go_wp2
    go_ret
    exact ⟨rf_, bw_ HB.out⟩
   ·replace c9 := Bool.eq_false_iff.mpr c9
    subst c9
    have H1 : ((num_Round.f kj3 a0_0 l0_1 a0_2 a1).bind fun bt479 => ((pelorusref05_Round.f kj3 a0_0 l0_1 a0_2 a1).bind fun bt484 => (if (bt479.1 == bt484.1 && (bt479.2.1 == bt484.2.1 && (bt479.2.2.1 == bt484.2.2.1 && (bt479.2.2.2 == bt484.2.2.2)))) = true then ((num_May.f bt479.1 bt479.2.1 bt479.2.2.1 bt479.2.2.2).bind fun t488 => (some t488)) else (some false)))) = some r := by rw [if_neg (show ¬ (false = true) by decide)] at H; exact H
    clear H
    have H := H1
    clear H1
    replace H := Option.bind_eq_some_iff.mp H
    obtain ⟨⟨t479, t480, t481, t482⟩, A100, H⟩ := H
    (try dsimp only at H)
    have A10 := Aside0.mk A100
    clear A100
    replace H := Option.bind_eq_some_iff.mp H
    obtain ⟨⟨t484, t485, t486, t487⟩, A110, H⟩ := H
    (try dsimp only at H)
    have A11 := Aside0.mk A110
    clear A110
    by_cases c12 : (t479 == t484 && (t480 == t485 && (t481 == t486 && (t482 == t487)))) = true
    ·rw [if_pos c12] at H
     have c12b0 : (t479 == t484 && (t480 == t485 && (t481 == t486 && (t482 == t487)))) = true := c12
     (try (have c12b1 : decide (t479 = t484 && (t480 == t485 && (t481 == t486 && (t482 == t487)))) = true := by simpa using c12))
     (try (have c12b2 : (t479 == t484 && (t480 == t485 && (t481 == t486 && (t482 == t487)))) = true := by simpa using c12))
     clear c12
     replace H := Option.bind_eq_some_iff.mp H
     obtain ⟨t488, A130, H⟩ := H
     (try dsimp only at H)
     have A13 := Aside0.mk A130
     clear A130
     obtain rfl := Option.some.inj H
     obtain ⟨hcz14_0, hcz14_1, hcz14_2, hfz14_0, hfz14_1, hfz14_2⟩ := c3_ BK477
     try go_wp2_with (first | ((with_reducible refine gate_callee (f := 12) rfl ?_); refine gl_ (some 20) Tryd.func12 #[.agg #[.bool a0_0, .slice A0_1 l0_1.length c0_1, .int .i64 a0_2], .bool a1] ?_; (with_reducible refine (num_Round.calls kj3 a0_0 _ _ l0_1 a0_2 a1 t479 t480 t481 t482 _ ?side1 ?side2 A10.out ?sidet).mono ?_); (case sidet => exact Kd.C_below HTAB.out (bw_ HB.out)); (case side1 => exact kc_ (Kd.C_below HR0_1.out HB.out)); (case side2 => exact HC0_1.out); rintro e w15 ⟨rfl, hb⟩; refine ⟨_, rfl, ?_⟩; replace BK477 := kq_ BK477 hb; replace HB := bq_ HB hb; (try clear hb); (try clear hb2); (try clear hk); (try clear hi)) | ((with_reducible refine gate_dst (N := 6) rfl ?_); (try (refine gate_guard (by rfl) ?_; dsimp only)); refine bx_ 6 #[.int .i64 0, .bool false, .int .u64 0, .int .i64 0] 30 ?_; intro gb483 hg w16 hbox hb; have BK483 := Aside0.mk (hbox); have GW483 := ge_ hg HB; have GE483 := ge_ hg HB; have NB477_483 := nb_ hg BK477; have NB483_477 := nc_ hg BK477; replace BK477 := kq_ BK477 hb; replace HB := bq_ HB hb; clear hb hbox hg; have hnb17 := NB483_477.out; have hnc17 := NB477_483.out; obtain ⟨hcz18_0, hcz18_1, hcz18_2, hcz18_3, hfz18_0, hfz18_1, hfz18_2, hfz18_3⟩ := c4_ BK483))
     have n0_ : Aside0 (((((w16.setCell ⟨gb483, 0, none⟩ (.int .i64 t479)).setCell ⟨gb483, 1, none⟩ (.bool t480)).setCell ⟨gb483, 2, none⟩ (.int .u64 t481)).setCell ⟨gb483, 3, none⟩ (.int .i64 t482)).heap[gb477]? = some (.cells #[.bool a0_0, .slice A0_1 l0_1.length c0_1, .int .i64 a0_2] 26 (0, 0))) := ⟨by refine kb_ ?_; refine bf_ NB477_483 ?_; refine bf_ NB477_483 ?_; refine bf_ NB477_483 ?_; refine bf_ NB477_483 ?_; exact BK477.out⟩
     have n1_ : Aside0 (((((w16.setCell ⟨gb483, 0, none⟩ (.int .i64 t479)).setCell ⟨gb483, 1, none⟩ (.bool t480)).setCell ⟨gb483, 2, none⟩ (.int .u64 t481)).setCell ⟨gb483, 3, none⟩ (.int .i64 t482)).heap[gb483]? = some (.cells #[.int .i64 t479, .bool t480, .int .u64 t481, .int .i64 t482] 30 (0, 0))) := ⟨by refine kb_ ?_; refine bp_ #[.int .i64 t479, .bool t480, .int .u64 t481, .int .i64 0] 3 ?_; refine bp_ #[.int .i64 t479, .bool t480, .int .u64 0, .int .i64 0] 2 ?_; refine bp_ #[.int .i64 t479, .bool false, .int .u64 0, .int .i64 0] 1 ?_; refine bp_ #[.int .i64 0, .bool false, .int .u64 0, .int .i64 0] 0 ?_; exact BK483.out⟩
     have n2_ : Aside0 (Below w.heap.size w ((((w16.setCell ⟨gb483, 0, none⟩ (.int .i64 t479)).setCell ⟨gb483, 1, none⟩ (.bool t480)).setCell ⟨gb483, 2, none⟩ (.int .u64 t481)).setCell ⟨gb483, 3, none⟩ (.int .i64 t482))) := ⟨bw_ HB.out⟩
     (try clear BK477)
     (try clear BK483)
     (try clear HB)
     generalize ((((w16.setCell ⟨gb483, 0, none⟩ (.int .i64 t479)).setCell ⟨gb483, 1, none⟩ (.bool t480)).setCell ⟨gb483, 2, none⟩ (.int .u64 t481)).setCell ⟨gb483, 3, none⟩ (.int .i64 t482)) = w19 at n0_ n1_ n2_ ⊢
     have BK477 := n0_
     have BK483 := n1_
     have HB := n2_
     clear n0_ n1_ n2_
     replace BK477 := Aside0.mk (blk_drew BK477.out)
     replace BK483 := Aside0.mk (blk_drew BK483.out)
     replace HB := Aside0.mk (below_drew1 HB.out)
     refine start_ (n := 10) (S := fun w' => w'.cell? ⟨gb483, 0, none⟩ = some (.int .i64 t479) ∧ w'.cell? ⟨gb483, 1, none⟩ = some (.bool t480) ∧ w'.cell? ⟨gb483, 2, none⟩ = some (.int .u64 t481) ∧ w'.cell? ⟨gb483, 3, none⟩ = some (.int .i64 t482) ∧ w'.cell? ⟨gb477, 0, none⟩ = some (.bool a0_0) ∧ w'.cell? ⟨gb477, 1, none⟩ = some (.slice A0_1 l0_1.length c0_1) ∧ w'.cell? ⟨gb477, 2, none⟩ = some (.int .i64 a0_2)) (ds := []) #[false, false, false, false, false, false, false, false, false, false] (by kernel_rfl) rfl rfl ⟨(blk_cell BK483.out 0).trans rfl, (blk_cell BK483.out 1).trans rfl, (blk_cell BK483.out 2).trans rfl, (blk_cell BK483.out 3).trans rfl, (blk_cell BK477.out 0).trans rfl, (blk_cell BK477.out 1).trans rfl, (blk_cell BK477.out 2).trans rfl⟩ (fun hHeld => ?_); refine with_tabW peloruslaw05_NumRounds.tab5 peloruslaw05_NumRounds.bits5 (fun HT_ HW_ => ?_)
     generalize w19.drew = w20 at BK477 BK483 HB hHeld ⊢
     refine pure_ (i := 2) (N := some 23) (v := ?_) (a' := ?_) #[false, false, true, false, false, false, false, false, false, false] rfl rfl (any_of HT_.out (by kernel_rfl)) (fun _ _ _ h => h) (Or.inl ⟨by rfl, ?_⟩) ?_ ?_
     rotate_left
     ·intro w'
      go_simp
      with_reducible rfl
     rotate_left
     ·exact pt_
     refine take_ (i := 0) (N := some 21) (v := ?_) (a' := ?_) #[true, false, true, false, false, false, false, false, false, false] rfl rfl (take_ofW HT_.out HW_.out (by kernel_rfl)) (fun _ _ _ h => h) (Or.inl ⟨by rfl, ?_⟩) hHeld ?_ ?_
     rotate_left
     ·rintro w' ⟨s0, s1, s2, s3, s4, s5, s6⟩
      go_simp
      with_reducible rfl
     rotate_left
     ·exact pt_
     refine take_ (i := 1) (N := some 22) (v := ?_) (a' := ?_) #[true, true, true, false, false, false, false, false, false, false] rfl rfl (take_ofW HT_.out HW_.out (by kernel_rfl)) (fun _ _ _ h => h) (Or.inl ⟨by rfl, ?_⟩) hHeld ?_ ?_
     rotate_left
     ·rintro w' ⟨s0, s1, s2, s3, s4, s5, s6⟩
      go_simp
      with_reducible rfl
     rotate_left
     ·exact pt_
     refine one_ (i := 3) (N := some 24) #[true, true, true, true, false, false, false, false, false, false] rfl rfl (one_of HT_.out (by kernel_rfl)) (by decide) (fun K hK => ?_)
     refine gs_ Tryd.func13 #[.agg #[.bool a0_0, .slice A0_1 l0_1.length c0_1, .int .i64 a0_2], .bool a1] ?_
     with_reducible refine (pelorusref05_Round.calls kj3 a0_0 _ _ l0_1 a0_2 a1 t484 t485 t486 t487 _ ?side1 ?side2 A11.out).mono ?_
     (case side1 => exact kc_ (Kd.C_below HR0_1.out HB.out))
     (case side2 => exact HC0_1.out)
     rintro e w21 ⟨rfl, hb⟩
     refine ⟨_, rfl, ?_⟩
     replace BK477 := kq_ BK477 hb
     replace BK483 := kq_ BK483 hb
     replace HB := bq_ HB hb
     (try clear hb)
     (try clear hb2)
     (try clear hk)
     (try clear hi)
     refine hK.out _ _ ⟨(blk_cell BK483.out 0).trans rfl, (blk_cell BK483.out 1).trans rfl, (blk_cell BK483.out 2).trans rfl, (blk_cell BK483.out 3).trans rfl, (blk_cell BK477.out 0).trans rfl, (blk_cell BK477.out 1).trans rfl, (blk_cell BK477.out 2).trans rfl⟩ (fun hHeld => ?_)
     clear hK K
     refine norm_ (a' := ?_) ?_ ?_
     rotate_left
     ·show Act.put _ (some 24) _ = _
      exact pt_
     refine pure_ (i := 4) (N := some 25) (v := ?_) (a' := ?_) #[true, true, true, true, true, false, false, false, false, false] rfl rfl (any_of HT_.out (by kernel_rfl)) (fun _ _ _ h => h) (Or.inl ⟨by rfl, ?_⟩) ?_ ?_
     rotate_left
     ·intro w'
      go_simp
      with_reducible rfl
     rotate_left
     ·exact pt_
     refine pure_ (i := 5) (N := some 26) (v := ?_) (a' := ?_) #[true, true, true, true, true, true, false, false, false, false] rfl rfl (any_of HT_.out (by kernel_rfl)) (fun _ _ _ h => h) (Or.inl ⟨by rfl, ?_⟩) ?_ ?_
     rotate_left
     ·intro w'
      go_simp
      with_reducible rfl
     rotate_left
     ·exact pt_
     refine take_ (i := 6) (N := some 27) (v := ?_) (a' := ?_) #[true, true, true, true, true, true, true, false, false, false] rfl rfl (take_ofW HT_.out HW_.out (by kernel_rfl)) (fun _ _ _ h => h) (Or.inl ⟨by rfl, ?_⟩) hHeld ?_ ?_
     rotate_left
     ·rintro w' ⟨s0, s1, s2, s3, s4, s5, s6⟩
      go_simp
      with_reducible rfl
     rotate_left
     ·exact pt_
     refine one_ (i := 7) (N := some 28) #[true, true, true, true, true, true, true, true, false, false] rfl rfl (one_of HT_.out (by kernel_rfl)) (by decide) (fun K hK => ?_)
     refine gs_ Tryd.func14 #[.agg #[.int .i64 t479, .bool t480, .int .u64 t481, .int .i64 t482]] ?_
     with_reducible refine (num_May.calls t479 t480 t481 t482 t488 _ A13.out).mono ?_
     rintro e w22 ⟨rfl, hb⟩
     refine ⟨_, rfl, ?_⟩
     replace BK477 := kq_ BK477 hb
     replace BK483 := kq_ BK483 hb
     replace HB := bq_ HB hb
     (try clear hb)
     (try clear hb2)
     (try clear hk)
     (try clear hi)
     refine hK.out _ _ ⟨(blk_cell BK483.out 0).trans rfl, (blk_cell BK483.out 1).trans rfl, (blk_cell BK483.out 2).trans rfl, (blk_cell BK483.out 3).trans rfl, (blk_cell BK477.out 0).trans rfl, (blk_cell BK477.out 1).trans rfl, (blk_cell BK477.out 2).trans rfl⟩ (fun hHeld => ?_)
     clear hK K
     refine norm_ (a' := ?_) ?_ ?_
     rotate_left
     ·show Act.put _ (some 28) _ = _
      exact pt_
     refine pure_ (i := 8) (N := some 29) (v := ?_) (a' := ?_) #[true, true, true, true, true, true, true, true, true, false] rfl rfl (any_of HT_.out (by kernel_rfl)) (fun _ _ _ h => h) (Or.inl ⟨by rfl, ?_⟩) ?_ ?_
     rotate_left
     ·intro w'
      go_simp
      with_reducible rfl
     rotate_left
     ·exact pt_
     refine pure_ (i := 9) (N := some 4) (v := ?_) (a' := ?_) #[true, true, true, true, true, true, true, true, true, true] rfl rfl (any_of HT_.out (by kernel_rfl)) (fun _ _ _ h => h) (Or.inl ⟨by rfl, ?_⟩) ?_ ?_
     rotate_left
     ·intro w'
      go_simp
      with_reducible rfl
     rotate_left
     ·exact pt_
     refine done_ (done_of HT_.out (by kernel_rfl)) ?_
     try go_wp2
     go_ret
     exact ⟨rf_, bw_ HB.out⟩
    ·rw [if_neg c12] at H
     have c12b0 : (t479 == t484 && (t480 == t485 && (t481 == t486 && (t482 == t487)))) = false := by simpa using c12
     (try (have c12b1 : decide (t479 = t484 && (t480 == t485 && (t481 == t486 && (t482 == t487)))) = false := by simpa using c12))
     (try (have c12b2 : (t479 == t484 && (t480 == t485 && (t481 == t486 && (t482 == t487)))) = false := by simpa using c12))
     (try (have c12b3 : ¬ (t479 = t484 && (t480 == t485 && (t481 == t486 && (t482 == t487)))) := by simpa using c12))
     clear c12
     exact absurd ((Option.some.inj H).trans HRT_.out) (by simp)


end Go.Proofs.YtkemnoejpbknhaaDoor.PA
