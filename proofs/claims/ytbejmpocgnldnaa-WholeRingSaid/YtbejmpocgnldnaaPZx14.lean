-- Laid by this work's own program; Lean checks it.
import Derived.Test.YtbejmpocgnldnaaPZx0
import Derived.Test.YtbejmpocgnldnaaPZx1
import Derived.Test.YtbejmpocgnldnaaPZx2
import Derived.Test.YtbejmpocgnldnaaPZx4
namespace Go.Proofs.Ytbejmpocgnldnaa.PZ
open Go.RowKit Go.Proofs.YtbejmpocgnldnaaW.PrintWords Go.Proofs.YtbejmpocgnldnaaW.PrintLast Go.Proofs.YtbejmpocgnldnaaW.PrintMore
attribute [local go_sem] max2_int min2_int max_two min_two max_three min_three max_four min_four   -- for this text's walks alone
set_option linter.unusedVariables false
set_option linter.unusedSimpArgs false

attribute [local go_sem ↓ high] isSome_set_
/-! ### whole_Neg: function 31 -/
set_option maxHeartbeats 8000000 in
set_option maxRecDepth 100000 in
theorem whole_Neg.calls (k : Nat) (a0_0 : Bool) (A0_1 : Option Addr) (c0_1 : Nat) (l0_1 : List Int) (r1 : Bool) (r2 : List Int) (w : World) (hr0_1 : Kd.C (Kd.int .u32) w A0_1 l0_1.length l0_1) (hc0_1 : l0_1.length ≤ c0_1) (h : whole_Neg.f k a0_0 l0_1 = some (r1, r2)) :
  Calls Try.prog 31 #[.agg #[.bool a0_0, .slice A0_1 l0_1.length c0_1]] w fun e w' => ∃ v1_ : Value, e = .returned (.agg #[.bool r1, v1_]) ∧ Kd.R (Kd.int .u32) 47 w' w.heap.size (fun _ => True) v1_ r2 ∧ Below w.heap.size w w' := by
 have hu24 := Try.underlying24
 have HR0_1 := Aside0.mk hr0_1
 have HC0_1 := Aside0.mk hc0_1
 clear hr0_1 hc0_1
 have HB := Aside0.mk (Below.refl w.heap.size w)
 have H : ((whole_Make.f k (!a0_0) l0_1).bind fun bt550 => (some (bt550.1, bt550.2))) = some (r1, r2) := h
 clear h
 replace H := Option.bind_eq_some_iff.mp H
 obtain ⟨⟨t550, t551⟩, A20, H⟩ := H
 (try dsimp only at H)
 have A2 := Aside0.mk A20
 clear A20
 simp only [Option.some.injEq, Prod.mk.injEq] at H
 obtain ⟨rfl, rfl⟩ := H
 go_enter Try.func31, Try.ntmps31
 go_wp2_with (first | ((with_reducible refine gate_dst (N := 1) rfl ?_); refine bx_ 1 #[.bool a0_0, .slice A0_1 l0_1.length c0_1] 24 ?_; intro gb548 hg w3 hbox hb; have BK548 := Aside0.mk (hbox); have GW548 := ge_ hg HB; have GE548 := ge_ hg HB; replace HB := bq_ HB hb; clear hb hbox hg) | ((with_reducible refine gate_dst (N := 2) rfl ?_); refine bx_ 2 #[.bool false, .slice none 0 0] 24 ?_; intro gb549 hg w4 hbox hb; have BK549 := Aside0.mk (hbox); have GW549 := ge_ hg HB; have GE549 := ge_ hg HB; have NB548_549 := nb_ hg BK548; have NB549_548 := nc_ hg BK548; replace BK548 := kq_ BK548 hb; replace HB := bq_ HB hb; clear hb hbox hg; have hnb5 := NB548_549.out; have hnc5 := NB549_548.out; obtain ⟨hcz6_0, hcz6_1, hfz6_0, hfz6_1⟩ := c2_ BK548) | ((with_reducible refine gate_callee (f := 16) rfl ?_); refine gl_ (some 8) Try.func16 #[.bool (!a0_0), .slice A0_1 l0_1.length c0_1] ?_; (with_reducible refine (whole_Make.calls k (!a0_0) _ _ l0_1 t550 t551 _ ?side1 ?side2 A2.out).mono ?_); (case side1 => exact kc_ (Kd.C_below HR0_1.out HB.out)); (case side2 => exact HC0_1.out); rintro e w7 ⟨v552, rfl, ho0, hb⟩; refine ⟨_, rfl, ?_⟩; have HO553 := Aside0.mk (Kd.R_lower ho0 (below_size (bw_ HB.out))); replace BK548 := kq_ BK548 hb; replace BK549 := kq_ BK549 hb; replace HB := bq_ HB hb; (try clear hb); (try clear hb2); (try clear hk); (try clear hi); (try clear ho0); obtain ⟨hcz8_0, hcz8_1, hfz8_0, hfz8_1⟩ := c2_ BK549; obtain ⟨Ao9, co9, eo9⟩ := Kd.R_slice HO553.out; subst eo9))
 refine bodyPost_ret (results_cell_row rfl _ _ gb549 24 #[.bool t550, .slice Ao9 t551.length co9] (0, 0) _ rfl (by refine kb_ ?_; refine bp_ #[.bool t550, .slice none 0 0] 1 ?_; refine bp_ #[.bool false, .slice none 0 0] 0 ?_; exact BK549.out) Try.underlying24 rfl (by kernel_rfl)) rfl ?_
 exact ⟨_, rf_, by (with_reducible repeat (first | apply Kd.R_alloc | apply Kd.R_drewN | apply Kd.R_drew)); exact Kd.R_mono (Kd.R_far (p := ⟨gb549, 1, none⟩) (Kd.R_far (p := ⟨gb549, 0, none⟩) (Kd.R_types HO553.out BK549.out (by decide)) (fun _ hk => hk.2) (.bool t550)) (fun _ hk => hk.2) (.slice Ao9 t551.length co9)) (fun _ hk => trivial), bw_ HB.out⟩

/-! ### whole_Sub: function 28 -/
set_option maxHeartbeats 8000000 in
set_option maxRecDepth 100000 in
theorem whole_Sub.calls (k : Nat) (a0_0 : Bool) (A0_1 : Option Addr) (c0_1 : Nat) (l0_1 : List Int) (a1_0 : Bool) (A1_1 : Option Addr) (c1_1 : Nat) (l1_1 : List Int) (r1 : Bool) (r2 : List Int) (w : World) (hr0_1 : Kd.C (Kd.int .u32) w A0_1 l0_1.length l0_1) (hc0_1 : l0_1.length ≤ c0_1) (hr1_1 : Kd.C (Kd.int .u32) w A1_1 l1_1.length l1_1) (hc1_1 : l1_1.length ≤ c1_1) (h : whole_Sub.f k a0_0 l0_1 a1_0 l1_1 = some (r1, r2)) :
  Calls Try.prog 28 #[.agg #[.bool a0_0, .slice A0_1 l0_1.length c0_1], .agg #[.bool a1_0, .slice A1_1 l1_1.length c1_1]] w fun e w' => ∃ v1_ : Value, e = .returned (.agg #[.bool r1, v1_]) ∧ Kd.R (Kd.int .u32) 47 w' w.heap.size (fun _ => True) v1_ r2 ∧ Below w.heap.size w w' := by
 have hu24 := Try.underlying24
 have HR0_1 := Aside0.mk hr0_1
 have HC0_1 := Aside0.mk hc0_1
 clear hr0_1 hc0_1
 have HR1_1 := Aside0.mk hr1_1
 have HC1_1 := Aside0.mk hc1_1
 clear hr1_1 hc1_1
 have HB := Aside0.mk (Below.refl w.heap.size w)
 have H : ((whole_Neg.f k a1_0 l1_1).bind fun bt557 => ((whole_Add.f k a0_0 l0_1 bt557.1 bt557.2).bind fun bt561 => (some (bt561.1, bt561.2)))) = some (r1, r2) := h
 clear h
 replace H := Option.bind_eq_some_iff.mp H
 obtain ⟨⟨t557, t558⟩, A30, H⟩ := H
 (try dsimp only at H)
 have A3 := Aside0.mk A30
 clear A30
 replace H := Option.bind_eq_some_iff.mp H
 obtain ⟨⟨t561, t562⟩, A40, H⟩ := H
 (try dsimp only at H)
 have A4 := Aside0.mk A40
 clear A40
 simp only [Option.some.injEq, Prod.mk.injEq] at H
 obtain ⟨rfl, rfl⟩ := H
 go_enter Try.func28, Try.ntmps28
 try go_wp2_with (first | ((with_reducible refine gate_dst (N := 2) rfl ?_); refine bx_ 2 #[.bool a0_0, .slice A0_1 l0_1.length c0_1] 24 ?_; intro gb554 hg w5 hbox hb; have BK554 := Aside0.mk (hbox); have GW554 := ge_ hg HB; have GE554 := ge_ hg HB; replace HB := bq_ HB hb; clear hb hbox hg) | ((with_reducible refine gate_dst (N := 3) rfl ?_); refine bx_ 3 #[.bool a1_0, .slice A1_1 l1_1.length c1_1] 24 ?_; intro gb555 hg w6 hbox hb; have BK555 := Aside0.mk (hbox); have GW555 := ge_ hg HB; have GE555 := ge_ hg HB; have NB554_555 := nb_ hg BK554; have NB555_554 := nc_ hg BK554; replace BK554 := kq_ BK554 hb; replace HB := bq_ HB hb; clear hb hbox hg) | ((with_reducible refine gate_dst (N := 4) rfl ?_); refine bx_ 4 #[.bool false, .slice none 0 0] 24 ?_; intro gb556 hg w7 hbox hb; have BK556 := Aside0.mk (hbox); have GW556 := ge_ hg HB; have GE556 := ge_ hg HB; have NB554_556 := nb_ hg BK554; have NB556_554 := nc_ hg BK554; have NB555_556 := nb_ hg BK555; have NB556_555 := nc_ hg BK555; replace BK554 := kq_ BK554 hb; replace BK555 := kq_ BK555 hb; replace HB := bq_ HB hb; clear hb hbox hg))
 replace BK554 := Aside0.mk (blk_drew BK554.out)
 replace BK555 := Aside0.mk (blk_drew BK555.out)
 replace BK556 := Aside0.mk (blk_drew BK556.out)
 replace HB := Aside0.mk (below_drew1 HB.out)
 refine start_ (n := 5) (S := fun w' => w'.cell? ⟨gb554, 0, none⟩ = some (.bool a0_0) ∧ w'.cell? ⟨gb554, 1, none⟩ = some (.slice A0_1 l0_1.length c0_1) ∧ w'.cell? ⟨gb555, 0, none⟩ = some (.bool a1_0) ∧ w'.cell? ⟨gb555, 1, none⟩ = some (.slice A1_1 l1_1.length c1_1)) (ds := []) #[false, false, false, false, false] (by kernel_rfl) rfl rfl ⟨(blk_cell BK554.out 0).trans rfl, (blk_cell BK554.out 1).trans rfl, (blk_cell BK555.out 0).trans rfl, (blk_cell BK555.out 1).trans rfl⟩ (fun hHeld => ?_)
 generalize w7.drew = w8 at BK554 BK555 BK556 HB hHeld ⊢
 refine take_ (i := 0) (N := some 5) (v := ?_) (a' := ?_) #[true, false, false, false, false] rfl rfl (by kernel_rfl) (fun _ _ _ h => h) (Or.inl ⟨by rfl, ?_⟩) hHeld ?_ ?_
 rotate_left
 ·rintro w' ⟨s0, s1, s2, s3⟩
  go_simp
  with_reducible rfl
 rotate_left
 ·exact pt_
 refine take_ (i := 1) (N := some 6) (v := ?_) (a' := ?_) #[true, true, false, false, false] rfl rfl (by kernel_rfl) (fun _ _ _ h => h) (Or.inl ⟨by rfl, ?_⟩) hHeld ?_ ?_
 rotate_left
 ·rintro w' ⟨s0, s1, s2, s3⟩
  go_simp
  with_reducible rfl
 rotate_left
 ·exact pt_
 refine one_ (i := 2) (N := some 7) #[true, true, true, false, false] rfl rfl (by kernel_rfl) (by decide) (fun K hK => ?_)
 refine gs_ Try.func31 #[.agg #[.bool a1_0, .slice A1_1 l1_1.length c1_1]] ?_
 with_reducible refine (whole_Neg.calls k a1_0 _ _ l1_1 t557 t558 _ ?side1 ?side2 A3.out).mono ?_
 (case side1 => exact kc_ (Kd.C_below HR1_1.out HB.out))
 (case side2 => exact HC1_1.out)
 rintro e w9 ⟨v559, rfl, ho0, hb⟩
 refine ⟨_, rfl, ?_⟩
 have HO560 := Aside0.mk (Kd.R_lower ho0 (below_size (bw_ HB.out)))
 replace BK554 := kq_ BK554 hb
 replace BK555 := kq_ BK555 hb
 replace BK556 := kq_ BK556 hb
 replace HB := bq_ HB hb
 (try clear hb)
 (try clear hb2)
 (try clear hk)
 (try clear hi)
 (try clear ho0)
 obtain ⟨Ao10, co10, eo10⟩ := Kd.R_slice HO560.out
 (first | subst eo10 | (injection eo10 with f1_ f2_ f3_; have f4_ := f1_.symm; have f5_ := f3_.symm; clear f1_ f2_ f3_; subst f4_; subst f5_))
 refine hK.out _ _ ⟨(blk_cell BK554.out 0).trans rfl, (blk_cell BK554.out 1).trans rfl, (blk_cell BK555.out 0).trans rfl, (blk_cell BK555.out 1).trans rfl⟩ (fun hHeld => ?_)
 clear hK K
 refine norm_ (a' := ?_) ?_ ?_
 rotate_left
 ·show Act.put _ (some 7) _ = _
  exact pt_
 refine one_ (i := 3) (N := some 8) #[true, true, true, true, false] rfl rfl (by kernel_rfl) (by decide) (fun K hK => ?_)
 refine gs_ Try.func27 #[.agg #[.bool a0_0, .slice A0_1 l0_1.length c0_1], .agg #[.bool t557, .slice Ao10 t558.length co10]] ?_
 with_reducible refine (whole_Add.calls k a0_0 _ _ l0_1 t557 _ _ t558 t561 t562 _ ?side1 ?side2 ?side3 ?side4 A4.out).mono ?_
 (case side1 => exact kc_ (Kd.C_below HR0_1.out HB.out))
 (case side2 => exact HC0_1.out)
 (case side3 => exact kc_ (Kd.R_reads' HO560.out).2.2)
 (case side4 => exact (Kd.R_reads' HO560.out).2.1)
 rintro e w11 ⟨v563, rfl, ho0, hb⟩
 refine ⟨_, rfl, ?_⟩
 have HO564 := Aside0.mk (Kd.R_lower (Kd.R_new' ho0 (Kd.R_lt (kr_ HO560.out))) (below_size (bw_ HB.out)))
 replace HO560 := Aside0.mk (Kd.R_elder' (kr_ HO560.out) (Kd.R_base ho0) hb)
 replace BK554 := kq_ BK554 hb
 replace BK555 := kq_ BK555 hb
 replace BK556 := kq_ BK556 hb
 replace HB := bq_ HB hb
 (try clear hb)
 (try clear hb2)
 (try clear hk)
 (try clear hi)
 (try clear ho0)
 obtain ⟨Ao13, co13, eo13⟩ := Kd.R_slice HO564.out
 (first | subst eo13 | (injection eo13 with f1_ f2_ f3_; have f4_ := f1_.symm; have f5_ := f3_.symm; clear f1_ f2_ f3_; subst f4_; subst f5_))
 refine hK.out _ _ ⟨(blk_cell BK554.out 0).trans rfl, (blk_cell BK554.out 1).trans rfl, (blk_cell BK555.out 0).trans rfl, (blk_cell BK555.out 1).trans rfl⟩ (fun hHeld => ?_)
 clear hK K
 refine norm_ (a' := ?_) ?_ ?_
 rotate_left
 ·show Act.put _ (some 8) _ = _
  exact pt_
 refine one_ (i := 4) (N := none) #[true, true, true, true, true] rfl rfl (by kernel_rfl) (by decide) (fun K hK => ?_)
 have hs12 : w11.cell? ⟨gb556, 0, none⟩ = some (.bool false) := (blk_cell BK556.out 0).trans rfl
 have hfs12 := fz_ BK556 0
 have hns12_0 := NB554_556.out
 have hns12_1 := NB555_556.out
 have hms12_0 := NB556_554.out
 have hms12_1 := NB556_555.out
 have hs14 : w11.cell? ⟨gb556, 1, none⟩ = some (.slice none 0 0) := (blk_cell BK556.out 1).trans rfl
 have hfs14 := fz_ BK556 1
 have hns14_0 := NB554_556.out
 have hns14_1 := NB555_556.out
 have hms14_0 := NB556_554.out
 have hms14_1 := NB556_555.out
 refine skip_ (w1 := ?_) (by rfl) rfl ?_ ?_
 rotate_left
 ·go_simp
  rfl
 refine hK.out _ _ ⟨((cell_far (p := ⟨gb556, _, none⟩) NB554_556.out _).trans (((cell_far (p := ⟨gb556, _, none⟩) NB554_556.out _).trans (hHeld.1)))), ((cell_far (p := ⟨gb556, _, none⟩) NB554_556.out _).trans (((cell_far (p := ⟨gb556, _, none⟩) NB554_556.out _).trans (hHeld.2.1)))), ((cell_far (p := ⟨gb556, _, none⟩) NB555_556.out _).trans (((cell_far (p := ⟨gb556, _, none⟩) NB555_556.out _).trans (hHeld.2.2.1)))), ((cell_far (p := ⟨gb556, _, none⟩) NB555_556.out _).trans (((cell_far (p := ⟨gb556, _, none⟩) NB555_556.out _).trans (hHeld.2.2.2))))⟩ (fun hHeld => ?_)
 clear hK K
 refine done_ (by kernel_rfl) ?_
 try go_wp2
 refine bodyPost_ret (results_cell_row rfl _ _ gb556 24 #[.bool t561, .slice Ao13 t562.length co13] (0, 0) _ rfl (by refine kb_ ?_; refine bp_ #[.bool t561, .slice none 0 0] 1 ?_; refine bp_ #[.bool false, .slice none 0 0] 0 ?_; exact BK556.out) Try.underlying24 rfl (by kernel_rfl)) rfl ?_
 exact ⟨_, rf_, by (with_reducible repeat (first | apply Kd.R_alloc | apply Kd.R_drewN | apply Kd.R_drew)); exact Kd.R_mono (Kd.R_far (p := ⟨gb556, 1, none⟩) (Kd.R_far (p := ⟨gb556, 0, none⟩) (Kd.R_types HO564.out BK556.out (by decide)) (fun _ hk => hk.2) (.bool t561)) (fun _ hk => hk.2) (.slice Ao13 t562.length co13)) (fun _ hk => trivial), bw_ HB.out⟩

end Go.Proofs.Ytbejmpocgnldnaa.PZ
