-- Laid by this work's own program; Lean checks it.
import Derived.Test.YtaookeneeemfbaaDoorPAx0
import Derived.Test.YtaookeneeemfbaaDoorPAx1
import Derived.Test.YtaookeneeemfbaaDoorPAx2
import Derived.Test.YtaookeneeemfbaaDoorPAx3
import Derived.Test.YtaookeneeemfbaaDoorPAx7
import Derived.Test.YtaookeneeemfbaaDoorPAx8
namespace Go.Proofs.YtaookeneeemfbaaDoor.PA
open Go.RowKit Go.Proofs.YtaookeneeemfbaaDoorW.PrintWords Go.Proofs.YtaookeneeemfbaaDoorW.PrintLast Go.Proofs.YtaookeneeemfbaaDoorW.PrintMore
attribute [local go_sem] max2_int min2_int max_two min_two max_three min_three max_four min_four   -- for this text's walks alone
set_option linter.unusedVariables false
set_option linter.unusedSimpArgs false

attribute [local go_sem ↓ high] isSome_set_
/-! ### peloruslaw03_Few: function 19 -/
set_option maxHeartbeats 8000000 in
set_option maxRecDepth 100000 in
theorem peloruslaw03_Few.calls (a0_0 : Bool) (A0_1 : Option Addr) (c0_1 : Nat) (l0_1 : List Int) (a0_2 : Int) (r : Bool) (w : World) (hr0_1 : Kd.C (Kd.int .u32) w A0_1 l0_1.length l0_1) (hc0_1 : l0_1.length ≤ c0_1) (h : peloruslaw03_Few.f a0_0 l0_1 a0_2 = some r) :
  Calls Tryd.prog 19 #[.agg #[.bool a0_0, .slice A0_1 l0_1.length c0_1, .int .i64 a0_2]] w fun e w' => e = .returned (.bool r) ∧ Below w.heap.size w w' := by
 have hu27 := Tryd.underlying27
 have HR0_1 := Aside0.mk hr0_1
 have HC0_1 := Aside0.mk hc0_1
 clear hr0_1 hc0_1
 have HB := Aside0.mk (Below.refl w.heap.size w)
 have H : (if (l0_1.length : Int) ≤ 20 then (if a0_2 ≥ (-1000) then (some (decide (a0_2 ≤ 1000))) else (some false)) else (some false)) = some r := h
 clear h
 by_cases c2 : (l0_1.length : Int) ≤ 20
 ·rw [if_pos c2] at H
  have c2b0 : decide ((l0_1.length : Int) ≤ 20) = true := decide_eq_true c2
  have c2b1 : decide (l0_1.length ≤ 20) = true := decide_eq_true (by omega)
  clear c2
  by_cases c3 : a0_2 ≥ (-1000)
  ·rw [if_pos c3] at H
   have c3b0 : decide ((-1000) ≤ a0_2) = true := decide_eq_true c3
   clear c3
   obtain rfl := Option.some.inj H
   go_enter Tryd.func19, Tryd.ntmps19
   go_wp2_with (first | ((with_reducible refine gate_dst (N := 1) rfl ?_); refine bx_ 1 #[.bool a0_0, .slice A0_1 l0_1.length c0_1, .int .i64 a0_2] 27 ?_; intro gb639 hg w4 hbox hb; have BK639 := Aside0.mk (hbox); have GW639 := ge_ hg HB; have GE639 := ge_ hg HB; replace HB := bq_ HB hb; clear hb hbox hg; obtain ⟨hcz5_0, hcz5_1, hcz5_2, hfz5_0, hfz5_1, hfz5_2⟩ := c3_ BK639))
   go_ret
   exact ⟨rf_, bw_ HB.out⟩
  ·rw [if_neg c3] at H
   have c3b0 : decide ((-1000) ≤ a0_2) = false := decide_eq_false c3
   clear c3
   obtain rfl := Option.some.inj H
   go_enter Tryd.func19, Tryd.ntmps19
   go_wp2_with (first | ((with_reducible refine gate_dst (N := 1) rfl ?_); refine bx_ 1 #[.bool a0_0, .slice A0_1 l0_1.length c0_1, .int .i64 a0_2] 27 ?_; intro gb639 hg w6 hbox hb; have BK639 := Aside0.mk (hbox); have GW639 := ge_ hg HB; have GE639 := ge_ hg HB; replace HB := bq_ HB hb; clear hb hbox hg; obtain ⟨hcz7_0, hcz7_1, hcz7_2, hfz7_0, hfz7_1, hfz7_2⟩ := c3_ BK639))
   go_ret
   exact ⟨rf_, bw_ HB.out⟩
 ·rw [if_neg c2] at H
  have c2b0 : decide ((l0_1.length : Int) ≤ 20) = false := decide_eq_false c2
  have c2b1 : decide (l0_1.length ≤ 20) = false := decide_eq_false (by omega)
  clear c2
  obtain rfl := Option.some.inj H
  go_enter Tryd.func19, Tryd.ntmps19
  go_wp2_with (first | ((with_reducible refine gate_dst (N := 1) rfl ?_); refine bx_ 1 #[.bool a0_0, .slice A0_1 l0_1.length c0_1, .int .i64 a0_2] 27 ?_; intro gb639 hg w8 hbox hb; have BK639 := Aside0.mk (hbox); have GW639 := ge_ hg HB; have GE639 := ge_ hg HB; replace HB := bq_ HB hb; clear hb hbox hg; obtain ⟨hcz9_0, hcz9_1, hcz9_2, hfz9_0, hfz9_1, hfz9_2⟩ := c3_ BK639))
  go_ret
  exact ⟨rf_, bw_ HB.out⟩

/-! ### whole_Neg: function 59 -/
set_option maxHeartbeats 8000000 in
set_option maxRecDepth 100000 in
theorem whole_Neg.calls (k : Nat) (a0_0 : Bool) (A0_1 : Option Addr) (c0_1 : Nat) (l0_1 : List Int) (r1 : Bool) (r2 : List Int) (w : World) (hr0_1 : Kd.C (Kd.int .u32) w A0_1 l0_1.length l0_1) (hc0_1 : l0_1.length ≤ c0_1) (h : whole_Neg.f k a0_0 l0_1 = some (r1, r2)) :
  Calls Tryd.prog 59 #[.agg #[.bool a0_0, .slice A0_1 l0_1.length c0_1]] w fun e w' => ∃ v1_ : Value, e = .returned (.agg #[.bool r1, v1_]) ∧ Kd.R (Kd.int .u32) 51 w' w.heap.size (fun _ => True) v1_ r2 ∧ Below w.heap.size w w' := by
 have hu24 := Tryd.underlying24
 have HR0_1 := Aside0.mk hr0_1
 have HC0_1 := Aside0.mk hc0_1
 clear hr0_1 hc0_1
 have HB := Aside0.mk (Below.refl w.heap.size w)
 have H : ((whole_Make.f k (!a0_0) l0_1).bind fun bt642 => (some (bt642.1, bt642.2))) = some (r1, r2) := h
 clear h
 replace H := Option.bind_eq_some_iff.mp H
 obtain ⟨⟨t642, t643⟩, A20, H⟩ := H
 (try dsimp only at H)
 have A2 := Aside0.mk A20
 clear A20
 simp only [Option.some.injEq, Prod.mk.injEq] at H
 obtain ⟨rfl, rfl⟩ := H
 go_enter Tryd.func59, Tryd.ntmps59
 go_wp2_with (first | ((with_reducible refine gate_dst (N := 1) rfl ?_); refine bx_ 1 #[.bool a0_0, .slice A0_1 l0_1.length c0_1] 24 ?_; intro gb640 hg w3 hbox hb; have BK640 := Aside0.mk (hbox); have GW640 := ge_ hg HB; have GE640 := ge_ hg HB; replace HB := bq_ HB hb; clear hb hbox hg) | ((with_reducible refine gate_dst (N := 2) rfl ?_); refine bx_ 2 #[.bool false, .slice none 0 0] 24 ?_; intro gb641 hg w4 hbox hb; have BK641 := Aside0.mk (hbox); have GW641 := ge_ hg HB; have GE641 := ge_ hg HB; have NB640_641 := nb_ hg BK640; have NB641_640 := nc_ hg BK640; replace BK640 := kq_ BK640 hb; replace HB := bq_ HB hb; clear hb hbox hg; have hnb5 := NB640_641.out; have hnc5 := NB641_640.out; obtain ⟨hcz6_0, hcz6_1, hfz6_0, hfz6_1⟩ := c2_ BK640) | ((with_reducible refine gate_callee (f := 41) rfl ?_); refine gl_ (some 8) Tryd.func41 #[.bool (!a0_0), .slice A0_1 l0_1.length c0_1] ?_; (with_reducible refine (whole_Make.calls k (!a0_0) _ _ l0_1 t642 t643 _ ?side1 ?side2 A2.out).mono ?_); (case side1 => exact kc_ (Kd.C_below HR0_1.out HB.out)); (case side2 => exact HC0_1.out); rintro e w7 ⟨v644, rfl, ho0, hb⟩; refine ⟨_, rfl, ?_⟩; have HO645 := Aside0.mk (Kd.R_lower ho0 (below_size (bw_ HB.out))); replace BK640 := kq_ BK640 hb; replace BK641 := kq_ BK641 hb; replace HB := bq_ HB hb; (try clear hb); (try clear hb2); (try clear hk); (try clear hi); (try clear ho0); obtain ⟨hcz8_0, hcz8_1, hfz8_0, hfz8_1⟩ := c2_ BK641; obtain ⟨Ao9, co9, eo9⟩ := Kd.R_slice HO645.out; subst eo9))
 refine bodyPost_ret (results_cell_row rfl _ _ gb641 24 #[.bool t642, .slice Ao9 t643.length co9] (0, 0) _ rfl (by refine kb_ ?_; refine bp_ #[.bool t642, .slice none 0 0] 1 ?_; refine bp_ #[.bool false, .slice none 0 0] 0 ?_; exact BK641.out) Tryd.underlying24 rfl (by kernel_rfl)) rfl ?_
 exact ⟨_, rf_, by (with_reducible repeat (first | apply Kd.R_alloc | apply Kd.R_drewN | apply Kd.R_drew)); exact Kd.R_mono (Kd.R_far (p := ⟨gb641, 1, none⟩) (Kd.R_far (p := ⟨gb641, 0, none⟩) (Kd.R_types HO645.out BK641.out (by decide)) (fun _ hk => hk.2) (.bool t642)) (fun _ hk => hk.2) (.slice Ao9 t643.length co9)) (fun _ hk => trivial), bw_ HB.out⟩

/-! ### dy_Neg: function 32 -/
set_option maxHeartbeats 8000000 in
set_option maxRecDepth 100000 in
theorem dy_Neg.calls (k : Nat) (a0_0 : Bool) (A0_1 : Option Addr) (c0_1 : Nat) (l0_1 : List Int) (a0_2 : Int) (r1 : Bool) (r2 : List Int) (r3 : Int) (w : World) (hr0_1 : Kd.C (Kd.int .u32) w A0_1 l0_1.length l0_1) (hc0_1 : l0_1.length ≤ c0_1) (h : dy_Neg.f k a0_0 l0_1 a0_2 = some (r1, r2, r3)) (htab_ : Kd.C (Kd.int .u8) w (some ⟨0, 0, none⟩) 32 tz32tab) :
  Calls Tryd.prog 32 #[.agg #[.bool a0_0, .slice A0_1 l0_1.length c0_1, .int .i64 a0_2]] w fun e w' => ∃ v1_ : Value, e = .returned (.agg #[.bool r1, v1_, .int .i64 r3]) ∧ Kd.R (Kd.int .u32) 51 w' w.heap.size (fun _ => True) v1_ r2 ∧ Below w.heap.size w w' := by
 have HTAB := Aside0.mk htab_
 clear htab_
 have hu27 := Tryd.underlying27
 have hu24 := Tryd.underlying24
 have HR0_1 := Aside0.mk hr0_1
 have HC0_1 := Aside0.mk hc0_1
 clear hr0_1 hc0_1
 have HB := Aside0.mk (Below.refl w.heap.size w)
 have H : ((whole_Neg.f k a0_0 l0_1).bind fun bt648 => ((dy_Make.f k bt648.1 bt648.2 a0_2).bind fun bt652 => (some (bt652.1, bt652.2.1, bt652.2.2)))) = some (r1, r2, r3) := h
 clear h
 replace H := Option.bind_eq_some_iff.mp H
 obtain ⟨⟨t648, t649⟩, A20, H⟩ := H
 (try dsimp only at H)
 have A2 := Aside0.mk A20
 clear A20
 replace H := Option.bind_eq_some_iff.mp H
 obtain ⟨⟨t652, t653, t656⟩, A30, H⟩ := H
 (try dsimp only at H)
 have A3 := Aside0.mk A30
 clear A30
 simp only [Option.some.injEq, Prod.mk.injEq] at H
 obtain ⟨rfl, rfl, rfl⟩ := H
 go_enter Tryd.func32, Tryd.ntmps32
 try go_wp2_with (first | ((with_reducible refine gate_dst (N := 1) rfl ?_); refine bx_ 1 #[.bool a0_0, .slice A0_1 l0_1.length c0_1, .int .i64 a0_2] 27 ?_; intro gb646 hg w4 hbox hb; have BK646 := Aside0.mk (hbox); have GW646 := ge_ hg HB; have GE646 := ge_ hg HB; replace HB := bq_ HB hb; clear hb hbox hg) | ((with_reducible refine gate_dst (N := 2) rfl ?_); refine bx_ 2 #[.bool false, .slice none 0 0, .int .i64 0] 27 ?_; intro gb647 hg w5 hbox hb; have BK647 := Aside0.mk (hbox); have GW647 := ge_ hg HB; have GE647 := ge_ hg HB; have NB646_647 := nb_ hg BK646; have NB647_646 := nc_ hg BK646; replace BK646 := kq_ BK646 hb; replace HB := bq_ HB hb; clear hb hbox hg))
 replace BK646 := Aside0.mk (blk_drew BK646.out)
 replace BK647 := Aside0.mk (blk_drew BK647.out)
 replace HB := Aside0.mk (below_drew1 HB.out)
 refine start_ (n := 7) (S := fun w' => w'.cell? ⟨gb646, 0, none⟩ = some (.bool a0_0) ∧ w'.cell? ⟨gb646, 1, none⟩ = some (.slice A0_1 l0_1.length c0_1) ∧ w'.cell? ⟨gb646, 2, none⟩ = some (.int .i64 a0_2)) (ds := []) #[false, false, false, false, false, false, false] (by kernel_rfl) rfl rfl ⟨(blk_cell BK646.out 0).trans rfl, (blk_cell BK646.out 1).trans rfl, (blk_cell BK646.out 2).trans rfl⟩ (fun hHeld => ?_)
 generalize w5.drew = w6 at BK646 BK647 HB hHeld ⊢
 refine pure_ (i := 0) (N := some 3) (v := ?_) (a' := ?_) #[true, false, false, false, false, false, false] rfl rfl (by kernel_rfl) (fun _ _ _ h => h) (Or.inl ⟨by rfl, ?_⟩) ?_ ?_
 rotate_left
 ·intro w'
  go_simp
  with_reducible rfl
 rotate_left
 ·exact pt_
 refine pure_ (i := 3) (N := some 6) (v := ?_) (a' := ?_) #[true, false, false, true, false, false, false] rfl rfl (by kernel_rfl) (fun _ _ _ h => h) (Or.inl ⟨by rfl, ?_⟩) ?_ ?_
 rotate_left
 ·intro w'
  go_simp
  with_reducible rfl
 rotate_left
 ·exact pt_
 refine take_ (i := 1) (N := some 4) (v := ?_) (a' := ?_) #[true, true, false, true, false, false, false] rfl rfl (by kernel_rfl) (fun _ _ _ h => h) (Or.inl ⟨by rfl, ?_⟩) hHeld ?_ ?_
 rotate_left
 ·rintro w' ⟨s0, s1, s2⟩
  go_simp
  with_reducible rfl
 rotate_left
 ·exact pt_
 refine take_ (i := 4) (N := some 7) (v := ?_) (a' := ?_) #[true, true, false, true, true, false, false] rfl rfl (by kernel_rfl) (fun _ _ _ h => h) (Or.inl ⟨by rfl, ?_⟩) hHeld ?_ ?_
 rotate_left
 ·rintro w' ⟨s0, s1, s2⟩
  go_simp
  with_reducible rfl
 rotate_left
 ·exact pt_
 refine one_ (i := 2) (N := some 5) #[true, true, true, true, true, false, false] rfl rfl (by kernel_rfl) (by decide) (fun K hK => ?_)
 refine gs_ Tryd.func59 #[.agg #[.bool a0_0, .slice A0_1 l0_1.length c0_1]] ?_
 with_reducible refine (whole_Neg.calls k a0_0 _ _ l0_1 t648 t649 _ ?side1 ?side2 A2.out).mono ?_
 (case side1 => exact kc_ (Kd.C_below HR0_1.out HB.out))
 (case side2 => exact HC0_1.out)
 rintro e w7 ⟨v650, rfl, ho0, hb⟩
 refine ⟨_, rfl, ?_⟩
 have HO651 := Aside0.mk (Kd.R_lower ho0 (below_size (bw_ HB.out)))
 replace BK646 := kq_ BK646 hb
 replace BK647 := kq_ BK647 hb
 replace HB := bq_ HB hb
 (try clear hb)
 (try clear hb2)
 (try clear hk)
 (try clear hi)
 (try clear ho0)
 obtain ⟨Ao8, co8, eo8⟩ := Kd.R_slice HO651.out
 (first | subst eo8 | (injection eo8 with f1_ f2_ f3_; have f4_ := f1_.symm; have f5_ := f3_.symm; clear f1_ f2_ f3_; subst f4_; subst f5_))
 refine hK.out _ _ ⟨(blk_cell BK646.out 0).trans rfl, (blk_cell BK646.out 1).trans rfl, (blk_cell BK646.out 2).trans rfl⟩ (fun hHeld => ?_)
 clear hK K
 refine norm_ (a' := ?_) ?_ ?_
 rotate_left
 ·show Act.put _ (some 5) _ = _
  exact pt_
 refine one_ (i := 5) (N := some 8) #[true, true, true, true, true, true, false] rfl rfl (by kernel_rfl) (by decide) (fun K hK => ?_)
 refine gs_ Tryd.func10 #[.agg #[.bool t648, .slice Ao8 t649.length co8], .int .i64 a0_2] ?_
 with_reducible refine (dy_Make.calls k t648 _ _ t649 a0_2 t652 t653 t656 _ ?side1 ?side2 A3.out ?sidet).mono ?_
 (case sidet => exact Kd.C_below HTAB.out (bw_ HB.out))
 (case side1 => exact kc_ (Kd.R_reads' HO651.out).2.2)
 (case side2 => exact (Kd.R_reads' HO651.out).2.1)
 rintro e w9 ⟨v654, rfl, ho0, hb⟩
 refine ⟨_, rfl, ?_⟩
 have HO655 := Aside0.mk (Kd.R_lower (Kd.R_new' ho0 (Kd.R_lt (kr_ HO651.out))) (below_size (bw_ HB.out)))
 replace HO651 := Aside0.mk (Kd.R_elder' (kr_ HO651.out) (Kd.R_base ho0) hb)
 replace BK646 := kq_ BK646 hb
 replace BK647 := kq_ BK647 hb
 replace HB := bq_ HB hb
 (try clear hb)
 (try clear hb2)
 (try clear hk)
 (try clear hi)
 (try clear ho0)
 obtain ⟨Ao11, co11, eo11⟩ := Kd.R_slice HO655.out
 (first | subst eo11 | (injection eo11 with f1_ f2_ f3_; have f4_ := f1_.symm; have f5_ := f3_.symm; clear f1_ f2_ f3_; subst f4_; subst f5_))
 refine hK.out _ _ ⟨(blk_cell BK646.out 0).trans rfl, (blk_cell BK646.out 1).trans rfl, (blk_cell BK646.out 2).trans rfl⟩ (fun hHeld => ?_)
 clear hK K
 refine norm_ (a' := ?_) ?_ ?_
 rotate_left
 ·show Act.put _ (some 8) _ = _
  exact pt_
 refine one_ (i := 6) (N := none) #[true, true, true, true, true, true, true] rfl rfl (by kernel_rfl) (by decide) (fun K hK => ?_)
 have hs10 : w9.cell? ⟨gb647, 0, none⟩ = some (.bool false) := (blk_cell BK647.out 0).trans rfl
 have hfs10 := fz_ BK647 0
 have hns10_0 := NB646_647.out
 have hms10_0 := NB647_646.out
 have hs12 : w9.cell? ⟨gb647, 1, none⟩ = some (.slice none 0 0) := (blk_cell BK647.out 1).trans rfl
 have hfs12 := fz_ BK647 1
 have hns12_0 := NB646_647.out
 have hms12_0 := NB647_646.out
 have hs13 : w9.cell? ⟨gb647, 2, none⟩ = some (.int .i64 0) := (blk_cell BK647.out 2).trans rfl
 have hfs13 := fz_ BK647 2
 have hns13_0 := NB646_647.out
 have hms13_0 := NB647_646.out
 refine skip_ (w1 := ?_) (by rfl) rfl ?_ ?_
 rotate_left
 ·go_simp
  rfl
 refine hK.out _ _ ⟨((cell_far (p := ⟨gb647, _, none⟩) NB646_647.out _).trans (((cell_far (p := ⟨gb647, _, none⟩) NB646_647.out _).trans (((cell_far (p := ⟨gb647, _, none⟩) NB646_647.out _).trans (hHeld.1)))))), ((cell_far (p := ⟨gb647, _, none⟩) NB646_647.out _).trans (((cell_far (p := ⟨gb647, _, none⟩) NB646_647.out _).trans (((cell_far (p := ⟨gb647, _, none⟩) NB646_647.out _).trans (hHeld.2.1)))))), ((cell_far (p := ⟨gb647, _, none⟩) NB646_647.out _).trans (((cell_far (p := ⟨gb647, _, none⟩) NB646_647.out _).trans (((cell_far (p := ⟨gb647, _, none⟩) NB646_647.out _).trans (hHeld.2.2))))))⟩ (fun hHeld => ?_)
 clear hK K
 refine done_ (by kernel_rfl) ?_
 try go_wp2
 refine bodyPost_ret (results_cell_row rfl _ _ gb647 27 #[.bool t652, .slice Ao11 t653.length co11, .int .i64 t656] (0, 0) _ rfl (by refine kb_ ?_; refine bp_ #[.bool t652, .slice Ao11 t653.length co11, .int .i64 0] 2 ?_; refine bp_ #[.bool t652, .slice none 0 0, .int .i64 0] 1 ?_; refine bp_ #[.bool false, .slice none 0 0, .int .i64 0] 0 ?_; exact BK647.out) Tryd.underlying27 rfl (by kernel_rfl)) rfl ?_
 exact ⟨_, rf_, by (with_reducible repeat (first | apply Kd.R_alloc | apply Kd.R_drewN | apply Kd.R_drew)); exact Kd.R_mono (Kd.R_far (p := ⟨gb647, 2, none⟩) (Kd.R_far (p := ⟨gb647, 1, none⟩) (Kd.R_far (p := ⟨gb647, 0, none⟩) (Kd.R_types HO655.out BK647.out (by decide)) (fun _ hk => hk.2) (.bool t652)) (fun _ hk => hk.2) (.slice Ao11 t653.length co11)) (fun _ hk => hk.2) (.int .i64 t656)) (fun _ hk => trivial), bw_ HB.out⟩

/-! ### dy_Sub: function 28 -/
set_option maxHeartbeats 8000000 in
set_option maxRecDepth 100000 in
theorem dy_Sub.calls (k : Nat) (a0_0 : Bool) (P0_1_ : Nat → Prop) (A0_1 : Option Addr) (c0_1 : Nat) (l0_1 : List Int) (a0_2 : Int) (a1_0 : Bool) (A1_1 : Option Addr) (c1_1 : Nat) (l1_1 : List Int) (a1_2 : Int) (r1 : Bool) (r2 : List Int) (r3 : Int) (w : World) (hs0_1 : Kd.V (Kd.int .u32) 51 w w.heap.size (fun k_ => P0_1_ k_) (.slice A0_1 l0_1.length c0_1) l0_1) (hr1_1 : Kd.C (Kd.int .u32) w A1_1 l1_1.length l1_1) (hc1_1 : l1_1.length ≤ c1_1) (h : dy_Sub.f k a0_0 l0_1 a0_2 a1_0 l1_1 a1_2 = some (r1, r2, r3)) (htab_ : Kd.C (Kd.int .u8) w (some ⟨0, 0, none⟩) 32 tz32tab) :
  Calls Tryd.prog 28 #[.agg #[.bool a0_0, .slice A0_1 l0_1.length c0_1, .int .i64 a0_2], .agg #[.bool a1_0, .slice A1_1 l1_1.length c1_1, .int .i64 a1_2]] w fun e w' => ∃ v1_ : Value, e = .returned (.agg #[.bool r1, v1_, .int .i64 r3]) ∧ Kd.R (Kd.int .u32) 51 w' w.heap.size (fun k_ => (w.heap.size ≤ k_)) v1_ r2 ∧ Below w.heap.size w w' := by
 have HTAB := Aside0.mk htab_
 clear htab_
 have hu27 := Tryd.underlying27
 have HO0_1 := Aside0.mk (show Kd.V (Kd.int .u32) 51 w w.heap.size (fun k_ => (P0_1_ k_ ∨ w.heap.size ≤ k_)) (.slice A0_1 l0_1.length c0_1) l0_1 from Kd.V_mono hs0_1 (fun k_ hk => .inl hk))
 have HR1_1 := Aside0.mk hr1_1
 have HC1_1 := Aside0.mk hc1_1
 clear hr1_1 hc1_1
 have HB := Aside0.mk (Below.refl w.heap.size w)
 have H : ((dy_Neg.f k a1_0 l1_1 a1_2).bind fun bt660 => ((dy_Add.f k (([(⟨(⟨a0_0, l0_1⟩ : S24), a0_2⟩ : S27), (⟨(⟨bt660.1, bt660.2.1⟩ : S24), bt660.2.2⟩ : S27)] : List (S27)))).bind fun bt668 => (some (bt668.1, bt668.2.1, bt668.2.2)))) = some (r1, r2, r3) := h
 clear h
 replace H := Option.bind_eq_some_iff.mp H
 obtain ⟨⟨t660, t661, t664⟩, A30, H⟩ := H
 (try dsimp only at H)
 have A3 := Aside0.mk A30
 clear A30
 obtain ⟨y665, hy665⟩ : ∃ y_ : List (S27), y_ = (([(⟨(⟨a0_0, l0_1⟩ : S24), a0_2⟩ : S27), (⟨(⟨t660, t661⟩ : S24), t664⟩ : S27)] : List (S27))) := ⟨_, rfl⟩
 replace H : ((dy_Add.f k y665).bind fun bt668 => (some (bt668.1, bt668.2.1, bt668.2.2))) = some (r1, r2, r3) := by first | (rw [hy665]; with_reducible exact H) | (have H2_ := (Option.bind_some _ _).symm.trans H; rw [hy665]; with_reducible exact H2_) | (have H2_ := (Option.bind_some _ _).symm.trans H; with_reducible exact H2_) | with_reducible exact H | (rw [hy665]; exact H) | exact H
 have Ny665 := Aside0.mk hy665
 clear hy665
 replace H := Option.bind_eq_some_iff.mp H
 obtain ⟨⟨t668, t669, t672⟩, A40, H⟩ := H
 (try dsimp only at H)
 have A4 := Aside0.mk A40
 clear A40
 simp only [Option.some.injEq, Prod.mk.injEq] at H
 obtain ⟨rfl, rfl, rfl⟩ := H
 go_enter Tryd.func28, Tryd.ntmps28
 try go_wp2_with (first | ((with_reducible refine gate_dst (N := 2) rfl ?_); refine bx_ 2 #[.bool a0_0, .slice A0_1 l0_1.length c0_1, .int .i64 a0_2] 27 ?_; intro gb657 hg w5 hbox hb; have n0_ := Aside0.mk (Kd.V_below (Kd.V_elderB (by (with_reducible repeat (first | apply Kd.V_alloc | apply Kd.V_drewN | apply Kd.V_drew)); exact HO0_1.out) gb657 (Nat.le_of_eq hg.symm)) hb); have n1_ := bq_ HB hb; have n2_ := Aside0.mk (hbox); have n3_ := ge_ hg HB; have n4_ := ge_ hg HB; clear HO0_1; clear HB; have HO0_1 := n0_; have HB := n1_; have BK657 := n2_; have GW657 := n3_; have GE657 := n4_; clear n0_ n1_ n2_ n3_ n4_; clear hb hbox hg) | ((with_reducible refine gate_dst (N := 3) rfl ?_); refine bx_ 3 #[.bool a1_0, .slice A1_1 l1_1.length c1_1, .int .i64 a1_2] 27 ?_; intro gb658 hg w6 hbox hb; have n0_ := Aside0.mk (Kd.V_below (Kd.V_elderB (by (with_reducible repeat (first | apply Kd.V_alloc | apply Kd.V_drewN | apply Kd.V_drew)); exact HO0_1.out) gb658 (Nat.le_of_eq hg.symm)) hb); have n1_ := kq_ BK657 hb; have n2_ := bq_ HB hb; have n3_ := Aside0.mk (hbox); have n4_ := ge_ hg HB; have n5_ := ge_ hg HB; have n6_ := nb_ hg BK657; have n7_ := nc_ hg BK657; clear HO0_1; clear BK657; clear HB; have HO0_1 := n0_; have BK657 := n1_; have HB := n2_; have BK658 := n3_; have GW658 := n4_; have GE658 := n5_; have NB657_658 := n6_; have NB658_657 := n7_; clear n0_ n1_ n2_ n3_ n4_ n5_ n6_ n7_; clear hb hbox hg) | ((with_reducible refine gate_dst (N := 4) rfl ?_); refine bx_ 4 #[.bool false, .slice none 0 0, .int .i64 0] 27 ?_; intro gb659 hg w7 hbox hb; have n0_ := Aside0.mk (Kd.V_below (Kd.V_elderB (by (with_reducible repeat (first | apply Kd.V_alloc | apply Kd.V_drewN | apply Kd.V_drew)); exact HO0_1.out) gb659 (Nat.le_of_eq hg.symm)) hb); have n1_ := kq_ BK657 hb; have n2_ := kq_ BK658 hb; have n3_ := bq_ HB hb; have n4_ := Aside0.mk (hbox); have n5_ := ge_ hg HB; have n6_ := ge_ hg HB; have n7_ := nb_ hg BK657; have n8_ := nc_ hg BK657; have n9_ := nb_ hg BK658; have n10_ := nc_ hg BK658; clear HO0_1; clear BK657; clear BK658; clear HB; have HO0_1 := n0_; have BK657 := n1_; have BK658 := n2_; have HB := n3_; have BK659 := n4_; have GW659 := n5_; have GE659 := n6_; have NB657_659 := n7_; have NB659_657 := n8_; have NB658_659 := n9_; have NB659_658 := n10_; clear n0_ n1_ n2_ n3_ n4_ n5_ n6_ n7_ n8_ n9_ n10_; clear hb hbox hg))
 replace HO0_1 := Aside0.mk (Kd.V_drew HO0_1.out)
 replace BK657 := Aside0.mk (blk_drew BK657.out)
 replace BK658 := Aside0.mk (blk_drew BK658.out)
 replace BK659 := Aside0.mk (blk_drew BK659.out)
 replace HB := Aside0.mk (below_drew1 HB.out)
 refine start_ (n := 6) (S := fun w' => w'.cell? ⟨gb657, 0, none⟩ = some (.bool a0_0) ∧ w'.cell? ⟨gb657, 1, none⟩ = some (.slice A0_1 l0_1.length c0_1) ∧ w'.cell? ⟨gb657, 2, none⟩ = some (.int .i64 a0_2) ∧ w'.cell? ⟨gb658, 0, none⟩ = some (.bool a1_0) ∧ w'.cell? ⟨gb658, 1, none⟩ = some (.slice A1_1 l1_1.length c1_1) ∧ w'.cell? ⟨gb658, 2, none⟩ = some (.int .i64 a1_2)) (ds := []) #[false, false, false, false, false, false] (by kernel_rfl) rfl rfl ⟨(blk_cell BK657.out 0).trans rfl, (blk_cell BK657.out 1).trans rfl, (blk_cell BK657.out 2).trans rfl, (blk_cell BK658.out 0).trans rfl, (blk_cell BK658.out 1).trans rfl, (blk_cell BK658.out 2).trans rfl⟩ (fun hHeld => ?_)
 generalize w7.drew = w8 at HO0_1 BK657 BK658 BK659 HB hHeld ⊢
 refine take_ (i := 0) (N := some 5) (v := ?_) (a' := ?_) #[true, false, false, false, false, false] rfl rfl (by kernel_rfl) (fun _ _ _ h => h) (Or.inl ⟨by rfl, ?_⟩) hHeld ?_ ?_
 rotate_left
 ·rintro w' ⟨s0, s1, s2, s3, s4, s5⟩
  go_simp
  with_reducible rfl
 rotate_left
 ·exact pt_
 refine take_ (i := 1) (N := some 6) (v := ?_) (a' := ?_) #[true, true, false, false, false, false] rfl rfl (by kernel_rfl) (fun _ _ _ h => h) (Or.inl ⟨by rfl, ?_⟩) hHeld ?_ ?_
 rotate_left
 ·rintro w' ⟨s0, s1, s2, s3, s4, s5⟩
  go_simp
  with_reducible rfl
 rotate_left
 ·exact pt_
 refine one_ (i := 2) (N := some 7) #[true, true, true, false, false, false] rfl rfl (by kernel_rfl) (by decide) (fun K hK => ?_)
 refine gs_ Tryd.func32 #[.agg #[.bool a1_0, .slice A1_1 l1_1.length c1_1, .int .i64 a1_2]] ?_
 with_reducible refine (dy_Neg.calls k a1_0 _ _ l1_1 a1_2 t660 t661 t664 _ ?side1 ?side2 A3.out ?sidet).mono ?_
 (case sidet => exact Kd.C_below HTAB.out (bw_ HB.out))
 (case side1 => exact kc_ (Kd.C_below HR1_1.out HB.out))
 (case side2 => exact HC1_1.out)
 rintro e w9 ⟨v662, rfl, ho0, hb⟩
 refine ⟨_, rfl, ?_⟩
 have n0_ := Aside0.mk (Kd.V_elder' (by (with_reducible repeat (first | apply Kd.V_alloc | apply Kd.V_drewN | apply Kd.V_drew)); exact HO0_1.out) (Kd.R_base ho0) hb)
 have n1_ := Aside0.mk (Kd.R_lower (Kd.R_newM (M := fun k_ => (w.heap.size ≤ k_)) ho0 (below_size (bw_ HB.out)) (fun k_ h_ => h_)) (below_size (bw_ HB.out)))
 have n2_ := kq_ BK657 hb
 have n3_ := kq_ BK658 hb
 have n4_ := kq_ BK659 hb
 have n5_ := bq_ HB hb
 clear HO0_1
 clear BK657
 clear BK658
 clear BK659
 clear HB
 have HO0_1 := n0_
 have HO663 := n1_
 have BK657 := n2_
 have BK658 := n3_
 have BK659 := n4_
 have HB := n5_
 clear n0_ n1_ n2_ n3_ n4_ n5_
 (try clear hb)
 (try clear hb2)
 (try clear hk)
 (try clear hi)
 (try clear ho0)
 obtain ⟨Ao10, co10, eo10⟩ := Kd.R_slice HO663.out
 (first | subst eo10 | (injection eo10 with f1_ f2_ f3_; have f4_ := f1_.symm; have f5_ := f3_.symm; clear f1_ f2_ f3_; subst f4_; subst f5_))
 refine hK.out _ _ ⟨(blk_cell BK657.out 0).trans rfl, (blk_cell BK657.out 1).trans rfl, (blk_cell BK657.out 2).trans rfl, (blk_cell BK658.out 0).trans rfl, (blk_cell BK658.out 1).trans rfl, (blk_cell BK658.out 2).trans rfl⟩ (fun hHeld => ?_)
 clear hK K
 refine norm_ (a' := ?_) ?_ ?_
 rotate_left
 ·show Act.put _ (some 7) _ = _
  exact pt_
 refine one_ (i := 3) (N := some 8) #[true, true, true, true, false, false] rfl rfl (by kernel_rfl) (by decide) (fun K hK => ?_)
 refine Kd.N_lit_step k27 _ 27 ?hg (N' := 8) ?hd (xs := ([(⟨(⟨a0_0, l0_1⟩ : S24), a0_2⟩ : S27), (⟨(⟨t660, t661⟩ : S24), t664⟩ : S27)] : List (S27))) (inner := [.bool a0_0, .slice A0_1 l0_1.length c0_1, .int .i64 a0_2, .bool t660, .slice Ao10 t661.length co10, .int .i64 t664]) (ok := (fun k_ => (P0_1_ k_ ∨ w.heap.size ≤ k_) ∧ k_ ≠ gb657 ∧ k_ ≠ gb658 ∧ k_ ≠ gb659)) (okp := (fun k_ => (P0_1_ k_ ∨ w.heap.size ≤ k_) ∧ k_ ≠ gb657 ∧ k_ ≠ gb658 ∧ k_ ≠ gb659)) ?hr ?hp (fun _ hk => hk) ((show ∀ k_, w9.heap.size ≤ k_ → (fun k_ => (P0_1_ k_ ∨ w.heap.size ≤ k_) ∧ k_ ≠ gb657 ∧ k_ ≠ gb658 ∧ k_ ≠ gb659) k_ from fun k_ hk => ⟨(.inr (Nat.le_trans (below_size (bw_ HB.out)) hk)), Kd.freshB (g := gb657) (o := .cells #[.bool a0_0, .slice A0_1 l0_1.length c0_1, .int .i64 a0_2] 27 (0, 0)) (kb_ BK657.out) k_ hk, Kd.freshB (g := gb658) (o := .cells #[.bool a1_0, .slice A1_1 l1_1.length c1_1, .int .i64 a1_2] 27 (0, 0)) (kb_ BK658.out) k_ hk, Kd.freshB (g := gb659) (o := .cells #[.bool false, .slice none 0 0, .int .i64 0] 27 (0, 0)) (kb_ BK659.out) k_ hk⟩) _ (Nat.le_refl _)) (Below.refl _ _) (Nat.le_refl _) (by simp) ?_; (case hd => rfl); (case hg => rfl); (case hr => first | (go_simp; done) | (go_simp; rfl)); (case hp => exact (Reps.c3 (show Kd.FK k27 _ _ (⟨(⟨a0_0, l0_1⟩ : S24), a0_2⟩ : S27) [.bool a0_0, .slice A0_1 l0_1.length c0_1, .int .i64 a0_2] from (k27_mkF _ _ (⟨(⟨a0_0, l0_1⟩ : S24), a0_2⟩ : S27) (Kd.V_reads' (Kd.V_mono (ok' := (fun k_ => (P0_1_ k_ ∨ w.heap.size ≤ k_) ∧ k_ ≠ gb657 ∧ k_ ≠ gb658 ∧ k_ ≠ gb659)) (HO0_1.out) (fun k_ hk => ⟨hk.1.1.1.1, ⟨hk.1.1.1.2, ⟨hk.1.1.2, hk.1.2⟩⟩⟩))).2.1 (Kd.V_F (Kd.V_mono (ok' := (fun k_ => (P0_1_ k_ ∨ w.heap.size ≤ k_) ∧ k_ ≠ gb657 ∧ k_ ≠ gb658 ∧ k_ ≠ gb659)) (HO0_1.out) (fun k_ hk => ⟨hk.1.1.1.1, ⟨hk.1.1.1.2, ⟨hk.1.1.2, hk.1.2⟩⟩⟩))))) (Reps.c3 (show Kd.FK k27 _ _ (⟨(⟨t660, t661⟩ : S24), t664⟩ : S27) [.bool t660, .slice Ao10 t661.length co10, .int .i64 t664] from (k27_mkF _ _ (⟨(⟨t660, t661⟩ : S24), t664⟩ : S27) (Kd.R_reads' (Kd.R_mono (ok' := (fun k_ => (P0_1_ k_ ∨ w.heap.size ≤ k_) ∧ k_ ≠ gb657 ∧ k_ ≠ gb658 ∧ k_ ≠ gb659)) (Kd.R_types (Kd.R_types (Kd.R_types (HO663.out) BK657.out (by decide)) BK658.out (by decide)) BK659.out (by decide)) (fun k_ hk => ⟨(.inr (hk.1.1.1.1)), ⟨hk.1.1.2, ⟨hk.1.2, hk.2⟩⟩⟩))).2.1 (Kd.R_F (Kd.R_mono (ok' := (fun k_ => (P0_1_ k_ ∨ w.heap.size ≤ k_) ∧ k_ ≠ gb657 ∧ k_ ≠ gb658 ∧ k_ ≠ gb659)) (Kd.R_types (Kd.R_types (Kd.R_types (HO663.out) BK657.out (by decide)) BK658.out (by decide)) BK659.out (by decide)) (fun k_ hk => ⟨(.inr (hk.1.1.1.1)), ⟨hk.1.1.2, ⟨hk.1.2, hk.2⟩⟩⟩))))) (Reps.none _ _))))
 intro v666 w11 ho12 hb hg_ hnew_
 clear hg_ hnew_
 (first | rw [← Ny665.out] at ho12 | (simp only [Int.reduceToNat] at ho12; rw [← Ny665.out] at ho12))
 have n0_ := Aside0.mk (Kd.V_elder' (by (with_reducible repeat (first | apply Kd.V_alloc | apply Kd.V_drewN | apply Kd.V_drew)); exact HO0_1.out) (Kd.N_base ho12) hb)
 have n1_ := Aside0.mk (Kd.N_lower ho12 (below_size (bw_ HB.out)))
 have n2_ := kq_ BK657 hb
 have n3_ := kq_ BK658 hb
 have n4_ := kq_ BK659 hb
 have n5_ := bq_ HB hb
 clear HO0_1
 clear BK657
 clear BK658
 clear BK659
 clear HB
 clear HO663
 have HO0_1 := n0_
 have HO667 := n1_
 have BK657 := n2_
 have BK658 := n3_
 have BK659 := n4_
 have HB := n5_
 clear n0_ n1_ n2_ n3_ n4_ n5_
 clear hb ho12
 obtain ⟨Ao13, co13, eo13⟩ := Kd.N_slice HO667.out
 (first | subst eo13 | (injection eo13 with f1_ f2_ f3_; have f4_ := f1_.symm; have f5_ := f3_.symm; clear f1_ f2_ f3_; subst f4_; subst f5_))
 refine hK.out _ _ ⟨(blk_cell BK657.out 0).trans rfl, (blk_cell BK657.out 1).trans rfl, (blk_cell BK657.out 2).trans rfl, (blk_cell BK658.out 0).trans rfl, (blk_cell BK658.out 1).trans rfl, (blk_cell BK658.out 2).trans rfl⟩ (fun hHeld => ?_)
 clear hK K
 refine norm_ (a' := ?_) ?_ ?_
 rotate_left
 ·show Act.put _ (some 8) _ = _
  exact pt_
 refine one_ (i := 4) (N := some 9) #[true, true, true, true, true, false] rfl rfl (by kernel_rfl) (by decide) (fun K hK => ?_)
 refine gs_ Tryd.func21 #[.slice Ao13 y665.length co13] ?_
 with_reducible refine (dy_Add.calls k _ _ y665 t668 t669 t672 _ ?side1 ?side2 A4.out ?sidet).mono ?_
 (case sidet => exact Kd.C_below HTAB.out (bw_ HB.out))
 (case side1 => exact kc_ (Kd.N_reads' HO667.out).2.2)
 (case side2 => exact (Kd.N_reads' HO667.out).2.1)
 rintro e w14 ⟨v670, rfl, ho0, hb⟩
 refine ⟨_, rfl, ?_⟩
 have n0_ := Aside0.mk (Kd.V_elder' (by (with_reducible repeat (first | apply Kd.V_alloc | apply Kd.V_drewN | apply Kd.V_drew)); exact HO0_1.out) (Kd.R_base ho0) hb)
 have n1_ := Aside0.mk (Kd.N_elder' (by (with_reducible repeat (first | apply Kd.N_alloc | apply Kd.N_drewN | apply Kd.N_drew)); exact HO667.out) (Kd.R_base ho0) hb)
 have n2_ := Aside0.mk (Kd.R_lower (Kd.R_newM (M := fun k_ => (w.heap.size ≤ k_)) ho0 (below_size (bw_ HB.out)) (fun k_ h_ => h_)) (below_size (bw_ HB.out)))
 have n3_ := kq_ BK657 hb
 have n4_ := kq_ BK658 hb
 have n5_ := kq_ BK659 hb
 have n6_ := bq_ HB hb
 clear HO0_1
 clear HO667
 clear BK657
 clear BK658
 clear BK659
 clear HB
 have HO0_1 := n0_
 have HO667 := n1_
 have HO671 := n2_
 have BK657 := n3_
 have BK658 := n4_
 have BK659 := n5_
 have HB := n6_
 clear n0_ n1_ n2_ n3_ n4_ n5_ n6_
 (try clear hb)
 (try clear hb2)
 (try clear hk)
 (try clear hi)
 (try clear ho0)
 obtain ⟨Ao16, co16, eo16⟩ := Kd.R_slice HO671.out
 (first | subst eo16 | (injection eo16 with f1_ f2_ f3_; have f4_ := f1_.symm; have f5_ := f3_.symm; clear f1_ f2_ f3_; subst f4_; subst f5_))
 refine hK.out _ _ ⟨(blk_cell BK657.out 0).trans rfl, (blk_cell BK657.out 1).trans rfl, (blk_cell BK657.out 2).trans rfl, (blk_cell BK658.out 0).trans rfl, (blk_cell BK658.out 1).trans rfl, (blk_cell BK658.out 2).trans rfl⟩ (fun hHeld => ?_)
 clear hK K
 refine norm_ (a' := ?_) ?_ ?_
 rotate_left
 ·show Act.put _ (some 9) _ = _
  exact pt_
 refine one_ (i := 5) (N := none) #[true, true, true, true, true, true] rfl rfl (by kernel_rfl) (by decide) (fun K hK => ?_)
 have hs15 : w14.cell? ⟨gb659, 0, none⟩ = some (.bool false) := (blk_cell BK659.out 0).trans rfl
 have hfs15 := fz_ BK659 0
 have hns15_0 := NB657_659.out
 have hns15_1 := NB658_659.out
 have hms15_0 := NB659_657.out
 have hms15_1 := NB659_658.out
 have hs17 : w14.cell? ⟨gb659, 1, none⟩ = some (.slice none 0 0) := (blk_cell BK659.out 1).trans rfl
 have hfs17 := fz_ BK659 1
 have hns17_0 := NB657_659.out
 have hns17_1 := NB658_659.out
 have hms17_0 := NB659_657.out
 have hms17_1 := NB659_658.out
 have hs18 : w14.cell? ⟨gb659, 2, none⟩ = some (.int .i64 0) := (blk_cell BK659.out 2).trans rfl
 have hfs18 := fz_ BK659 2
 have hns18_0 := NB657_659.out
 have hns18_1 := NB658_659.out
 have hms18_0 := NB659_657.out
 have hms18_1 := NB659_658.out
 refine skip_ (w1 := ?_) (by rfl) rfl ?_ ?_
 rotate_left
 ·go_simp
  rfl
 refine hK.out _ _ ⟨((cell_far (p := ⟨gb659, _, none⟩) NB657_659.out _).trans (((cell_far (p := ⟨gb659, _, none⟩) NB657_659.out _).trans (((cell_far (p := ⟨gb659, _, none⟩) NB657_659.out _).trans (hHeld.1)))))), ((cell_far (p := ⟨gb659, _, none⟩) NB657_659.out _).trans (((cell_far (p := ⟨gb659, _, none⟩) NB657_659.out _).trans (((cell_far (p := ⟨gb659, _, none⟩) NB657_659.out _).trans (hHeld.2.1)))))), ((cell_far (p := ⟨gb659, _, none⟩) NB657_659.out _).trans (((cell_far (p := ⟨gb659, _, none⟩) NB657_659.out _).trans (((cell_far (p := ⟨gb659, _, none⟩) NB657_659.out _).trans (hHeld.2.2.1)))))), ((cell_far (p := ⟨gb659, _, none⟩) NB658_659.out _).trans (((cell_far (p := ⟨gb659, _, none⟩) NB658_659.out _).trans (((cell_far (p := ⟨gb659, _, none⟩) NB658_659.out _).trans (hHeld.2.2.2.1)))))), ((cell_far (p := ⟨gb659, _, none⟩) NB658_659.out _).trans (((cell_far (p := ⟨gb659, _, none⟩) NB658_659.out _).trans (((cell_far (p := ⟨gb659, _, none⟩) NB658_659.out _).trans (hHeld.2.2.2.2.1)))))), ((cell_far (p := ⟨gb659, _, none⟩) NB658_659.out _).trans (((cell_far (p := ⟨gb659, _, none⟩) NB658_659.out _).trans (((cell_far (p := ⟨gb659, _, none⟩) NB658_659.out _).trans (hHeld.2.2.2.2.2))))))⟩ (fun hHeld => ?_)
 clear hK K
 refine done_ (by kernel_rfl) ?_
 try go_wp2
 refine bodyPost_ret (results_cell_row rfl _ _ gb659 27 #[.bool t668, .slice Ao16 t669.length co16, .int .i64 t672] (0, 0) _ rfl (by refine kb_ ?_; refine bp_ #[.bool t668, .slice Ao16 t669.length co16, .int .i64 0] 2 ?_; refine bp_ #[.bool t668, .slice none 0 0, .int .i64 0] 1 ?_; refine bp_ #[.bool false, .slice none 0 0, .int .i64 0] 0 ?_; exact BK659.out) Tryd.underlying27 rfl (by kernel_rfl)) rfl ?_
 exact ⟨_, rf_, by (with_reducible repeat (first | apply Kd.R_alloc | apply Kd.R_drewN | apply Kd.R_drew)); exact Kd.R_mono (Kd.R_far (p := ⟨gb659, 2, none⟩) (Kd.R_far (p := ⟨gb659, 1, none⟩) (Kd.R_far (p := ⟨gb659, 0, none⟩) (Kd.R_types HO671.out BK659.out (by decide)) (fun _ hk => hk.2) (.bool t668)) (fun _ hk => hk.2) (.slice Ao16 t669.length co16)) (fun _ hk => hk.2) (.int .i64 t672)) (fun _ hk => hk.1.1), bw_ HB.out⟩

/-! ### dy_Cmp: function 20 -/
set_option maxHeartbeats 8000000 in
set_option maxRecDepth 100000 in
theorem dy_Cmp.calls (k : Nat) (a0_0 : Bool) (A0_1 : Option Addr) (c0_1 : Nat) (l0_1 : List Int) (a0_2 : Int) (a1_0 : Bool) (A1_1 : Option Addr) (c1_1 : Nat) (l1_1 : List Int) (a1_2 : Int) (r : Int) (w : World) (hr0_1 : Kd.C (Kd.int .u32) w A0_1 l0_1.length l0_1) (hc0_1 : l0_1.length ≤ c0_1) (hr1_1 : Kd.C (Kd.int .u32) w A1_1 l1_1.length l1_1) (hc1_1 : l1_1.length ≤ c1_1) (h : dy_Cmp.f k a0_0 l0_1 a0_2 a1_0 l1_1 a1_2 = some r) (htab_ : Kd.C (Kd.int .u8) w (some ⟨0, 0, none⟩) 32 tz32tab) :
  Calls Tryd.prog 20 #[.agg #[.bool a0_0, .slice A0_1 l0_1.length c0_1, .int .i64 a0_2], .agg #[.bool a1_0, .slice A1_1 l1_1.length c1_1, .int .i64 a1_2]] w fun e w' => e = .returned (.int .i64 r) ∧ Below w.heap.size w w' := by
 have HTAB := Aside0.mk htab_
 clear htab_
 have hu27 := Tryd.underlying27
 have HR0_1 := Aside0.mk hr0_1
 have HC0_1 := Aside0.mk hc0_1
 clear hr0_1 hc0_1
 have HR1_1 := Aside0.mk hr1_1
 have HC1_1 := Aside0.mk hc1_1
 clear hr1_1 hc1_1
 have HB := Aside0.mk (Below.refl w.heap.size w)
 have H : ((dy_Sub.f k a0_0 l0_1 a0_2 a1_0 l1_1 a1_2).bind fun bt675 => ((dy_Sign.f k bt675.1 bt675.2.1 bt675.2.2).bind fun t680 => (some t680))) = some r := h
 clear h
 replace H := Option.bind_eq_some_iff.mp H
 obtain ⟨⟨t675, t676, t679⟩, A30, H⟩ := H
 (try dsimp only at H)
 have A3 := Aside0.mk A30
 clear A30
 replace H := Option.bind_eq_some_iff.mp H
 obtain ⟨t680, A40, H⟩ := H
 (try dsimp only at H)
 have A4 := Aside0.mk A40
 clear A40
 obtain rfl := Option.some.inj H
 go_enter Tryd.func20, Tryd.ntmps20
 go_wp2_with (first | ((with_reducible refine gate_dst (N := 2) rfl ?_); refine bx_ 2 #[.bool a0_0, .slice A0_1 l0_1.length c0_1, .int .i64 a0_2] 27 ?_; intro gb673 hg w5 hbox hb; have BK673 := Aside0.mk (hbox); have GW673 := ge_ hg HB; have GE673 := ge_ hg HB; replace HB := bq_ HB hb; clear hb hbox hg) | ((with_reducible refine gate_dst (N := 3) rfl ?_); refine bx_ 3 #[.bool a1_0, .slice A1_1 l1_1.length c1_1, .int .i64 a1_2] 27 ?_; intro gb674 hg w6 hbox hb; have BK674 := Aside0.mk (hbox); have GW674 := ge_ hg HB; have GE674 := ge_ hg HB; have NB673_674 := nb_ hg BK673; have NB674_673 := nc_ hg BK673; replace BK673 := kq_ BK673 hb; replace HB := bq_ HB hb; clear hb hbox hg; have hnb7 := NB673_674.out; have hnc7 := NB674_673.out; obtain ⟨hcz8_0, hcz8_1, hcz8_2, hfz8_0, hfz8_1, hfz8_2⟩ := c3_ BK673; obtain ⟨hcz9_0, hcz9_1, hcz9_2, hfz9_0, hfz9_1, hfz9_2⟩ := c3_ BK674) | ((with_reducible refine gate_callee (f := 28) rfl ?_); refine gl_ (some 7) Tryd.func28 #[.agg #[.bool a0_0, .slice A0_1 l0_1.length c0_1, .int .i64 a0_2], .agg #[.bool a1_0, .slice A1_1 l1_1.length c1_1, .int .i64 a1_2]] ?_; (with_reducible refine (dy_Sub.calls k a0_0 (fun k_ => k_ < w.heap.size) _ _ l0_1 a0_2 a1_0 _ _ l1_1 a1_2 t675 t676 t679 _ ?side1 ?side2 ?side3 A3.out ?sidet).mono ?_); (case sidet => exact Kd.C_below HTAB.out (bw_ HB.out)); (case side1 => exact Kd.V_mk HC0_1.out (Kd.F_below (Kd.C_F (Kd.heap_int .u32) HR0_1.out) (bw_ HB.out))); (case side2 => exact kc_ (Kd.C_below HR1_1.out HB.out)); (case side3 => exact HC1_1.out); rintro e w10 ⟨v677, rfl, ho0, hb⟩; refine ⟨_, rfl, ?_⟩; have HO678 := Aside0.mk (Kd.R_lower (Kd.R_mono (ok' := fun k_ => True) ho0 (fun _ hk_ => trivial)) (below_size (bw_ HB.out))); replace BK673 := kq_ BK673 hb; replace BK674 := kq_ BK674 hb; replace HB := bq_ HB hb; (try clear hb); (try clear hb2); (try clear hk); (try clear hi); (try clear ho0); obtain ⟨Ao11, co11, eo11⟩ := Kd.R_slice HO678.out; subst eo11) | ((with_reducible refine gate_callee (f := 17) rfl ?_); refine gl_ (some 8) Tryd.func17 #[.agg #[.bool t675, .slice Ao11 t676.length co11, .int .i64 t679]] ?_; (with_reducible refine (dy_Sign.calls k t675 _ _ t676 t679 t680 _ ?side1 ?side2 A4.out ?sidet).mono ?_); (case sidet => exact Kd.C_below HTAB.out (bw_ HB.out)); (case side1 => exact kc_ (Kd.R_reads' HO678.out).2.2); (case side2 => exact (Kd.R_reads' HO678.out).2.1); rintro e w12 ⟨rfl, hb⟩; refine ⟨_, rfl, ?_⟩; replace HO678 := Aside0.mk (Kd.R_below (kr_ HO678.out) hb); replace BK673 := kq_ BK673 hb; replace BK674 := kq_ BK674 hb; replace HB := bq_ HB hb; (try clear hb); (try clear hb2); (try clear hk); (try clear hi)))
 go_ret
 exact ⟨rf_, bw_ HB.out⟩

end Go.Proofs.YtaookeneeemfbaaDoor.PA
