-- Laid by this work's own program; Lean checks it.
import Derived.Test.YtaookeneeemfbaaDoorPAx0
import Derived.Test.YtaookeneeemfbaaDoorPAx1
import Derived.Test.YtaookeneeemfbaaDoorPAx12
namespace Go.Proofs.YtaookeneeemfbaaDoor.PA
open Go.RowKit Go.Proofs.YtaookeneeemfbaaDoorW.PrintWords Go.Proofs.YtaookeneeemfbaaDoorW.PrintLast Go.Proofs.YtaookeneeemfbaaDoorW.PrintMore
attribute [local go_sem] max2_int min2_int max_two min_two max_three min_three max_four min_four   -- for this text's walks alone
set_option linter.unusedVariables false
set_option linter.unusedSimpArgs false

attribute [local go_sem ↓ high] isSome_set_
/-! ### pelorusref03_Move: function 14 -/
set_option maxHeartbeats 8000000 in
set_option maxRecDepth 100000 in
theorem pelorusref03_Move.calls (k : Nat) (a0_0 : Bool) (A0_1 : Option Addr) (c0_1 : Nat) (l0_1 : List Int) (a0_2 : Int) (a1 : Int) (r1 : Bool) (r2 : List Int) (r3 : Int) (w : World) (hr0_1 : Kd.C (Kd.int .u32) w A0_1 l0_1.length l0_1) (hc0_1 : l0_1.length ≤ c0_1) (h : pelorusref03_Move.f k a0_0 l0_1 a0_2 a1 = some (r1, r2, r3)) :
  Calls Tryd.prog 14 #[.agg #[.bool a0_0, .slice A0_1 l0_1.length c0_1, .int .i64 a0_2], .int .i64 a1] w fun e w' => ∃ v1_ : Value, e = .returned (.agg #[.bool r1, v1_, .int .i64 r3]) ∧ Kd.R (Kd.int .u32) 51 w' w.heap.size (fun _ => True) v1_ r2 ∧ Below w.heap.size w w' := by
 have hu27 := Tryd.underlying27
 have hu24 := Tryd.underlying24
 have HR0_1 := Aside0.mk hr0_1
 have HC0_1 := Aside0.mk hc0_1
 clear hr0_1 hc0_1
 have HB := Aside0.mk (Below.refl w.heap.size w)
 have H : ((pelorusref03_Make.f k a0_0 l0_1 a0_2).bind fun bt571 => (if a1 > 16777216 then (some (false, ([] : List Int), 0)) else (if a1 < (-16777216) then (some (false, ([] : List Int), 0)) else ((pelorusref03_Make.f k bt571.1 bt571.2.1 (wrap64 (bt571.2.2 + a1))).bind fun bt577 => (some (bt577.1, bt577.2.1, bt577.2.2)))))) = some (r1, r2, r3) := h
 clear h
 replace H := Option.bind_eq_some_iff.mp H
 obtain ⟨⟨t571, t572, t575⟩, A30, H⟩ := H
 (try dsimp only at H)
 have A3 := Aside0.mk A30
 clear A30
 by_cases c4 : a1 > 16777216
 ·rw [if_pos c4] at H
  have c4b0 : decide (16777216 < a1) = true := decide_eq_true c4
  clear c4
  simp only [Option.some.injEq, Prod.mk.injEq] at H
  obtain ⟨rfl, rfl, rfl⟩ := H
  go_enter Tryd.func14, Tryd.ntmps14
  go_wp2_with (first | ((with_reducible refine gate_dst (N := 2) rfl ?_); refine bx_ 2 #[.bool a0_0, .slice A0_1 l0_1.length c0_1, .int .i64 a0_2] 27 ?_; intro gb569 hg w5 hbox hb; have BK569 := Aside0.mk (hbox); have GW569 := ge_ hg HB; have GE569 := ge_ hg HB; replace HB := bq_ HB hb; clear hb hbox hg) | ((with_reducible refine gate_dst (N := 4) rfl ?_); refine bx_ 4 #[.bool false, .slice none 0 0, .int .i64 0] 27 ?_; intro gb570 hg w6 hbox hb; have BK570 := Aside0.mk (hbox); have GW570 := ge_ hg HB; have GE570 := ge_ hg HB; have NB569_570 := nb_ hg BK569; have NB570_569 := nc_ hg BK569; replace BK569 := kq_ BK569 hb; replace HB := bq_ HB hb; clear hb hbox hg; have hnb7 := NB569_570.out; have hnc7 := NB570_569.out; obtain ⟨hcz8_0, hcz8_1, hcz8_2, hfz8_0, hfz8_1, hfz8_2⟩ := c3_ BK569) | ((with_reducible refine gate_callee (f := 12) rfl ?_); refine gl_ (some 10) Tryd.func12 #[.agg #[.bool a0_0, .slice A0_1 l0_1.length c0_1], .int .i64 a0_2] ?_; (with_reducible refine (pelorusref03_Make.calls k a0_0 _ _ l0_1 a0_2 t571 t572 t575 _ ?side1 ?side2 A3.out).mono ?_); (case side1 => exact kc_ (Kd.C_below HR0_1.out HB.out)); (case side2 => exact HC0_1.out); rintro e w9 ⟨v573, rfl, ho0, hb⟩; refine ⟨_, rfl, ?_⟩; have HO574 := Aside0.mk (Kd.R_lower ho0 (below_size (bw_ HB.out))); replace BK569 := kq_ BK569 hb; replace BK570 := kq_ BK570 hb; replace HB := bq_ HB hb; (try clear hb); (try clear hb2); (try clear hk); (try clear hi); (try clear ho0)) | ((with_reducible refine gate_dst (N := 5) rfl ?_); refine bx_ 5 #[.bool false, .slice none 0 0, .int .i64 0] 27 ?_; intro gb576 hg w10 hbox hb; have BK576 := Aside0.mk (hbox); have GW576 := ge_ hg HB; have GE576 := ge_ hg HB; have NB569_576 := nb_ hg BK569; have NB576_569 := nc_ hg BK569; have NB570_576 := nb_ hg BK570; have NB576_570 := nc_ hg BK570; replace HO574 := Aside0.mk (Kd.R_below (kr_ HO574.out) hb); replace BK569 := kq_ BK569 hb; replace BK570 := kq_ BK570 hb; replace HB := bq_ HB hb; clear hb hbox hg; have hnb11 := NB576_569.out; have hnc11 := NB569_576.out; have hnb12 := NB576_570.out; have hnc12 := NB570_576.out; obtain ⟨hcz13_0, hcz13_1, hcz13_2, hfz13_0, hfz13_1, hfz13_2⟩ := c3_ BK576; obtain ⟨Ao14, co14, eo14⟩ := Kd.R_slice HO574.out; subst eo14; obtain ⟨hcz15_0, hcz15_1, hcz15_2, hfz15_0, hfz15_1, hfz15_2⟩ := c3_ BK570))
  refine bodyPost_ret (results_cell_row rfl _ _ gb570 27 #[.bool false, .slice none 0 0, .int .i64 0] (0, 0) _ rfl (by refine kb_ ?_; refine bp_ #[.bool false, .slice none 0 0, .int .i64 0] 2 ?_; refine bp_ #[.bool false, .slice none 0 0, .int .i64 0] 1 ?_; refine bp_ #[.bool false, .slice none 0 0, .int .i64 0] 0 ?_; refine bf_ NB570_576 ?_; refine bf_ NB570_576 ?_; refine bf_ NB570_576 ?_; exact BK570.out) Tryd.underlying27 rfl (by kernel_rfl)) rfl ?_
  exact ⟨_, rf_, by first | exact Kd.R_nil _ _ _ _ _ | exact Kd.N_nil _ _ _ _ _ | exact Kd.V_nil _ _ _ _ _ | exact Kd.Q_nil _ _ _ _ _ | exact Kd.S_nil _ _ _ _ _, bw_ HB.out⟩
 ·rw [if_neg c4] at H
  have c4b0 : decide (16777216 < a1) = false := decide_eq_false c4
  clear c4
  by_cases c16 : a1 < (-16777216)
  ·rw [if_pos c16] at H
   have c16b0 : decide (a1 < (-16777216)) = true := decide_eq_true c16
   clear c16
   simp only [Option.some.injEq, Prod.mk.injEq] at H
   obtain ⟨rfl, rfl, rfl⟩ := H
   go_enter Tryd.func14, Tryd.ntmps14
   go_wp2_with (first | ((with_reducible refine gate_dst (N := 2) rfl ?_); refine bx_ 2 #[.bool a0_0, .slice A0_1 l0_1.length c0_1, .int .i64 a0_2] 27 ?_; intro gb569 hg w17 hbox hb; have BK569 := Aside0.mk (hbox); have GW569 := ge_ hg HB; have GE569 := ge_ hg HB; replace HB := bq_ HB hb; clear hb hbox hg) | ((with_reducible refine gate_dst (N := 4) rfl ?_); refine bx_ 4 #[.bool false, .slice none 0 0, .int .i64 0] 27 ?_; intro gb570 hg w18 hbox hb; have BK570 := Aside0.mk (hbox); have GW570 := ge_ hg HB; have GE570 := ge_ hg HB; have NB569_570 := nb_ hg BK569; have NB570_569 := nc_ hg BK569; replace BK569 := kq_ BK569 hb; replace HB := bq_ HB hb; clear hb hbox hg; have hnb19 := NB569_570.out; have hnc19 := NB570_569.out; obtain ⟨hcz20_0, hcz20_1, hcz20_2, hfz20_0, hfz20_1, hfz20_2⟩ := c3_ BK569) | ((with_reducible refine gate_callee (f := 12) rfl ?_); refine gl_ (some 10) Tryd.func12 #[.agg #[.bool a0_0, .slice A0_1 l0_1.length c0_1], .int .i64 a0_2] ?_; (with_reducible refine (pelorusref03_Make.calls k a0_0 _ _ l0_1 a0_2 t571 t572 t575 _ ?side1 ?side2 A3.out).mono ?_); (case side1 => exact kc_ (Kd.C_below HR0_1.out HB.out)); (case side2 => exact HC0_1.out); rintro e w21 ⟨v573, rfl, ho0, hb⟩; refine ⟨_, rfl, ?_⟩; have HO574 := Aside0.mk (Kd.R_lower ho0 (below_size (bw_ HB.out))); replace BK569 := kq_ BK569 hb; replace BK570 := kq_ BK570 hb; replace HB := bq_ HB hb; (try clear hb); (try clear hb2); (try clear hk); (try clear hi); (try clear ho0)) | ((with_reducible refine gate_dst (N := 5) rfl ?_); refine bx_ 5 #[.bool false, .slice none 0 0, .int .i64 0] 27 ?_; intro gb576 hg w22 hbox hb; have BK576 := Aside0.mk (hbox); have GW576 := ge_ hg HB; have GE576 := ge_ hg HB; have NB569_576 := nb_ hg BK569; have NB576_569 := nc_ hg BK569; have NB570_576 := nb_ hg BK570; have NB576_570 := nc_ hg BK570; replace HO574 := Aside0.mk (Kd.R_below (kr_ HO574.out) hb); replace BK569 := kq_ BK569 hb; replace BK570 := kq_ BK570 hb; replace HB := bq_ HB hb; clear hb hbox hg; have hnb23 := NB576_569.out; have hnc23 := NB569_576.out; have hnb24 := NB576_570.out; have hnc24 := NB570_576.out; obtain ⟨hcz25_0, hcz25_1, hcz25_2, hfz25_0, hfz25_1, hfz25_2⟩ := c3_ BK576; obtain ⟨Ao26, co26, eo26⟩ := Kd.R_slice HO574.out; subst eo26; obtain ⟨hcz27_0, hcz27_1, hcz27_2, hfz27_0, hfz27_1, hfz27_2⟩ := c3_ BK570))
   refine bodyPost_ret (results_cell_row rfl _ _ gb570 27 #[.bool false, .slice none 0 0, .int .i64 0] (0, 0) _ rfl (by refine kb_ ?_; refine bp_ #[.bool false, .slice none 0 0, .int .i64 0] 2 ?_; refine bp_ #[.bool false, .slice none 0 0, .int .i64 0] 1 ?_; refine bp_ #[.bool false, .slice none 0 0, .int .i64 0] 0 ?_; refine bf_ NB570_576 ?_; refine bf_ NB570_576 ?_; refine bf_ NB570_576 ?_; exact BK570.out) Tryd.underlying27 rfl (by kernel_rfl)) rfl ?_
   exact ⟨_, rf_, by first | exact Kd.R_nil _ _ _ _ _ | exact Kd.N_nil _ _ _ _ _ | exact Kd.V_nil _ _ _ _ _ | exact Kd.Q_nil _ _ _ _ _ | exact Kd.S_nil _ _ _ _ _, bw_ HB.out⟩
  ·rw [if_neg c16] at H
   have c16b0 : decide (a1 < (-16777216)) = false := decide_eq_false c16
   clear c16
   replace H := Option.bind_eq_some_iff.mp H
   obtain ⟨⟨t577, t578, t581⟩, A280, H⟩ := H
   (try dsimp only at H)
   have A28 := Aside0.mk A280
   clear A280
   simp only [Option.some.injEq, Prod.mk.injEq] at H
   obtain ⟨rfl, rfl, rfl⟩ := H
   go_enter Tryd.func14, Tryd.ntmps14
   go_wp2_with (first | ((with_reducible refine gate_dst (N := 2) rfl ?_); refine bx_ 2 #[.bool a0_0, .slice A0_1 l0_1.length c0_1, .int .i64 a0_2] 27 ?_; intro gb569 hg w29 hbox hb; have BK569 := Aside0.mk (hbox); have GW569 := ge_ hg HB; have GE569 := ge_ hg HB; replace HB := bq_ HB hb; clear hb hbox hg) | ((with_reducible refine gate_dst (N := 4) rfl ?_); refine bx_ 4 #[.bool false, .slice none 0 0, .int .i64 0] 27 ?_; intro gb570 hg w30 hbox hb; have BK570 := Aside0.mk (hbox); have GW570 := ge_ hg HB; have GE570 := ge_ hg HB; have NB569_570 := nb_ hg BK569; have NB570_569 := nc_ hg BK569; replace BK569 := kq_ BK569 hb; replace HB := bq_ HB hb; clear hb hbox hg; have hnb31 := NB569_570.out; have hnc31 := NB570_569.out; obtain ⟨hcz32_0, hcz32_1, hcz32_2, hfz32_0, hfz32_1, hfz32_2⟩ := c3_ BK569) | ((with_reducible refine gate_callee (f := 12) rfl ?_); refine gl_ (some 10) Tryd.func12 #[.agg #[.bool a0_0, .slice A0_1 l0_1.length c0_1], .int .i64 a0_2] ?_; (with_reducible refine (pelorusref03_Make.calls k a0_0 _ _ l0_1 a0_2 t571 t572 t575 _ ?side1 ?side2 A3.out).mono ?_); (case side1 => exact kc_ (Kd.C_below HR0_1.out HB.out)); (case side2 => exact HC0_1.out); rintro e w33 ⟨v573, rfl, ho0, hb⟩; refine ⟨_, rfl, ?_⟩; have HO574 := Aside0.mk (Kd.R_lower ho0 (below_size (bw_ HB.out))); replace BK569 := kq_ BK569 hb; replace BK570 := kq_ BK570 hb; replace HB := bq_ HB hb; (try clear hb); (try clear hb2); (try clear hk); (try clear hi); (try clear ho0)) | ((with_reducible refine gate_dst (N := 5) rfl ?_); refine bx_ 5 #[.bool false, .slice none 0 0, .int .i64 0] 27 ?_; intro gb576 hg w34 hbox hb; have BK576 := Aside0.mk (hbox); have GW576 := ge_ hg HB; have GE576 := ge_ hg HB; have NB569_576 := nb_ hg BK569; have NB576_569 := nc_ hg BK569; have NB570_576 := nb_ hg BK570; have NB576_570 := nc_ hg BK570; replace HO574 := Aside0.mk (Kd.R_below (kr_ HO574.out) hb); replace BK569 := kq_ BK569 hb; replace BK570 := kq_ BK570 hb; replace HB := bq_ HB hb; clear hb hbox hg; have hnb35 := NB576_569.out; have hnc35 := NB569_576.out; have hnb36 := NB576_570.out; have hnc36 := NB570_576.out; obtain ⟨hcz37_0, hcz37_1, hcz37_2, hfz37_0, hfz37_1, hfz37_2⟩ := c3_ BK576; obtain ⟨Ao38, co38, eo38⟩ := Kd.R_slice HO574.out; subst eo38) | ((with_reducible refine gate_callee (f := 12) rfl ?_); refine gl_ (some 24) Tryd.func12 #[.agg #[.bool t571, .slice Ao38 t572.length co38], .int .i64 (wrap64 (t575 + a1))] ?_; (with_reducible refine (pelorusref03_Make.calls k t571 _ _ t572 (wrap64 (t575 + a1)) t577 t578 t581 _ ?side1 ?side2 A28.out).mono ?_); (case side1 => refine (Kd.R_reads' (e := 51) (base := w.heap.size) (ok := fun k_ => True) (n := t572.length) (c := co38) ?_).2.2; exact (kr_ ((Kd.R_mono (Kd.R_far (p := ⟨gb576, 2, none⟩) (Kd.R_far (p := ⟨gb576, 1, none⟩) (Kd.R_far (p := ⟨gb576, 0, none⟩) (Kd.R_types HO574.out BK576.out (by decide)) (fun _ hk => hk.2) (.bool t571)) (fun _ hk => hk.2) (.slice Ao38 t572.length co38)) (fun _ hk => hk.2) (.int .i64 t575)) (fun _ h_ => h_.1))))); (case side2 => exact (Kd.R_reads' HO574.out).2.1); rintro e w39 ⟨v579, rfl, ho0, hb⟩; refine ⟨_, rfl, ?_⟩; have n0_ := Aside0.mk (Kd.R_elder' (kr_ ((Kd.R_mono (Kd.R_far (p := ⟨gb576, 2, none⟩) (Kd.R_far (p := ⟨gb576, 1, none⟩) (Kd.R_far (p := ⟨gb576, 0, none⟩) (Kd.R_types HO574.out BK576.out (by decide)) (fun _ hk => hk.2) (.bool t571)) (fun _ hk => hk.2) (.slice Ao38 t572.length co38)) (fun _ hk => hk.2) (.int .i64 t575)) (fun _ h_ => h_.1)))) (Kd.R_base ho0) hb); have n1_ := Aside0.mk (Kd.R_lower (Kd.R_new' ho0 (Kd.R_lt (kr_ ((Kd.R_mono (Kd.R_far (p := ⟨gb576, 2, none⟩) (Kd.R_far (p := ⟨gb576, 1, none⟩) (Kd.R_far (p := ⟨gb576, 0, none⟩) (Kd.R_types HO574.out BK576.out (by decide)) (fun _ hk => hk.2) (.bool t571)) (fun _ hk => hk.2) (.slice Ao38 t572.length co38)) (fun _ hk => hk.2) (.int .i64 t575)) (fun _ h_ => h_.1)))))) (below_size (bw_ HB.out))); have n2_ := Aside0.mk (blk_below (g := gb569) (o := .cells #[.bool a0_0, .slice A0_1 l0_1.length c0_1, .int .i64 a0_2] 27 (0, 0)) (by refine kb_ ?_; refine bf_ NB569_576 ?_; refine bf_ NB569_576 ?_; refine bf_ NB569_576 ?_; exact BK569.out) hb); have n3_ := Aside0.mk (blk_below (g := gb570) (o := .cells #[.bool false, .slice none 0 0, .int .i64 0] 27 (0, 0)) (by refine kb_ ?_; refine bf_ NB570_576 ?_; refine bf_ NB570_576 ?_; refine bf_ NB570_576 ?_; exact BK570.out) hb); have n4_ := Aside0.mk (blk_below (g := gb576) (o := .cells #[.bool t571, .slice Ao38 t572.length co38, .int .i64 t575] 27 (0, 0)) (by refine kb_ ?_; refine bp_ #[.bool t571, .slice Ao38 t572.length co38, .int .i64 0] 2 ?_; refine bp_ #[.bool t571, .slice none 0 0, .int .i64 0] 1 ?_; refine bp_ #[.bool false, .slice none 0 0, .int .i64 0] 0 ?_; exact BK576.out) hb); have n5_ := bq_ HB hb; clear HO574; clear BK569; clear BK570; clear BK576; clear HB; have HO574 := n0_; have HO580 := n1_; have BK569 := n2_; have BK570 := n3_; have BK576 := n4_; have HB := n5_; clear n0_ n1_ n2_ n3_ n4_ n5_; (try clear hb); (try clear hb2); (try clear hk); (try clear hi); (try clear ho0); obtain ⟨hcz40_0, hcz40_1, hcz40_2, hfz40_0, hfz40_1, hfz40_2⟩ := c3_ BK570; obtain ⟨Ao41, co41, eo41⟩ := Kd.R_slice HO580.out; subst eo41))
   refine bodyPost_ret (results_cell_row rfl _ _ gb570 27 #[.bool t577, .slice Ao41 t578.length co41, .int .i64 t581] (0, 0) _ rfl (by refine kb_ ?_; refine bp_ #[.bool t577, .slice Ao41 t578.length co41, .int .i64 0] 2 ?_; refine bp_ #[.bool t577, .slice none 0 0, .int .i64 0] 1 ?_; refine bp_ #[.bool false, .slice none 0 0, .int .i64 0] 0 ?_; exact BK570.out) Tryd.underlying27 rfl (by kernel_rfl)) rfl ?_
   exact ⟨_, rf_, by (with_reducible repeat (first | apply Kd.R_alloc | apply Kd.R_drewN | apply Kd.R_drew)); exact Kd.R_mono (Kd.R_far (p := ⟨gb570, 2, none⟩) (Kd.R_far (p := ⟨gb570, 1, none⟩) (Kd.R_far (p := ⟨gb570, 0, none⟩) (Kd.R_types HO580.out BK570.out (by decide)) (fun _ hk => hk.2) (.bool t577)) (fun _ hk => hk.2) (.slice Ao41 t578.length co41)) (fun _ hk => hk.2) (.int .i64 t581)) (fun _ hk => trivial), bw_ HB.out⟩

/-! ### pelorusref02_May: function 48 -/
set_option maxHeartbeats 8000000 in
set_option maxRecDepth 100000 in
theorem pelorusref02_May.calls (a0_0 : Bool) (A0_1 : Option Addr) (c0_1 : Nat) (l0_1 : List Int) (r : Bool) (w : World) (hr0_1 : Kd.C (Kd.int .u32) w A0_1 l0_1.length l0_1) (hc0_1 : l0_1.length ≤ c0_1) (h : pelorusref02_May.f a0_0 l0_1 = some r) :
  Calls Tryd.prog 48 #[.agg #[.bool a0_0, .slice A0_1 l0_1.length c0_1]] w fun e w' => e = .returned (.bool r) ∧ Below w.heap.size w w' := by
 have hu24 := Tryd.underlying24
 have HR0_1 := Aside0.mk hr0_1
 have HC0_1 := Aside0.mk hc0_1
 clear hr0_1 hc0_1
 have HB := Aside0.mk (Below.refl w.heap.size w)
 have H : (if (l0_1.length : Int) = 0 then (if (l0_1.length : Int) > 0 then (some true) else (some (!a0_0))) else (if 0 ≤ (wrap64 ((l0_1.length : Int) - 1)) then (if (wrap64 ((l0_1.length : Int) - 1)) < (l0_1.length : Int) then (if (rd l0_1 (wrap64 ((l0_1.length : Int) - 1))) = 0 then (some false) else (if (l0_1.length : Int) > 0 then (some true) else (some (!a0_0)))) else (none)) else (none))) = some r := h
 clear h
 by_cases c2 : (l0_1.length : Int) = 0
 ·rw [if_pos c2] at H
  have c2b0 : ((l0_1.length : Int) == 0) = true := beq_iff_eq.mpr c2
  have c2b1 : ((l0_1.length : Int) != 0) = false := bne_eq_false_iff_eq.mpr c2
  clear c2
  by_cases c3 : (l0_1.length : Int) > 0
  ·rw [if_pos c3] at H
   have c3b0 : decide (0 < (l0_1.length : Int)) = true := decide_eq_true c3
   have c3b1 : decide (0 < l0_1.length) = true := decide_eq_true (by omega)
   clear c3
   obtain rfl := Option.some.inj H
   go_enter Tryd.func48, Tryd.ntmps48
   go_wp2_with (first | ((with_reducible refine gate_dst (N := 1) rfl ?_); refine bx_ 1 #[.bool a0_0, .slice A0_1 l0_1.length c0_1] 24 ?_; intro gb582 hg w4 hbox hb; have BK582 := Aside0.mk (hbox); have GW582 := ge_ hg HB; have GE582 := ge_ hg HB; replace HB := bq_ HB hb; clear hb hbox hg; obtain ⟨hcz5_0, hcz5_1, hfz5_0, hfz5_1⟩ := c2_ BK582))
   go_ret
   exact ⟨rf_, bw_ HB.out⟩
  ·rw [if_neg c3] at H
   have c3b0 : decide (0 < (l0_1.length : Int)) = false := decide_eq_false c3
   have c3b1 : decide (0 < l0_1.length) = false := decide_eq_false (by omega)
   clear c3
   obtain rfl := Option.some.inj H
   go_enter Tryd.func48, Tryd.ntmps48
   go_wp2_with (first | ((with_reducible refine gate_dst (N := 1) rfl ?_); refine bx_ 1 #[.bool a0_0, .slice A0_1 l0_1.length c0_1] 24 ?_; intro gb582 hg w6 hbox hb; have BK582 := Aside0.mk (hbox); have GW582 := ge_ hg HB; have GE582 := ge_ hg HB; replace HB := bq_ HB hb; clear hb hbox hg; obtain ⟨hcz7_0, hcz7_1, hfz7_0, hfz7_1⟩ := c2_ BK582))
   go_ret
   exact ⟨rf_, bw_ HB.out⟩
 ·rw [if_neg c2] at H
  have c2b0 : ((l0_1.length : Int) == 0) = false := beq_eq_false_iff_ne.mpr c2
  have c2b1 : ((l0_1.length : Int) != 0) = true := bne_iff_ne.mpr c2
  have c2b2 : ¬ (l0_1 = []) := fun h_ => c2 (by rw [h_]; rfl)
  obtain ⟨ji8, hji8⟩ : ∃ j_ : Int, (wrap64 ((l0_1.length : Int) - 1)) = j_ := ⟨_, rfl⟩
  (first | rw [hji8] at H | simp only [hji8] at H)
  have hji8w : (IntKind.i64.wrap ((l0_1.length : Int) - 1)) = ji8 := (i64_w _).trans hji8
  by_cases c9 : 0 ≤ (ji8)
  ·rw [if_pos c9] at H
   have c9b0 : decide (0 ≤ (ji8)) = true := decide_eq_true c9
   clear c9
   by_cases c10 : (ji8) < (l0_1.length : Int)
   ·rw [if_pos c10] at H
    have c10b0 : decide ((ji8) < (l0_1.length : Int)) = true := decide_eq_true c10
    clear c10
    by_cases c11 : (rd l0_1 (ji8)) = 0
    ·rw [if_pos c11] at H
     have c11b0 : ((rd l0_1 (ji8)) == 0) = true := beq_iff_eq.mpr c11
     have c11b1 : ((rd l0_1 (ji8)) != 0) = false := bne_eq_false_iff_eq.mpr c11
     clear c11
     obtain rfl := Option.some.inj H
     go_enter Tryd.func48, Tryd.ntmps48
     go_wp2_with (first | ((with_reducible refine gate_dst (N := 1) rfl ?_); refine bx_ 1 #[.bool a0_0, .slice A0_1 l0_1.length c0_1] 24 ?_; intro gb582 hg w12 hbox hb; have BK582 := Aside0.mk (hbox); have GW582 := ge_ hg HB; have GE582 := ge_ hg HB; replace HB := bq_ HB hb; clear hb hbox hg; obtain ⟨hcz13_0, hcz13_1, hfz13_0, hfz13_1⟩ := c2_ BK582; have p583 : 0 ≤ ((ji8) : Int) := of_decide_eq_true (by first | (with_reducible assumption) | assumption); have q583 : (ji8) < (l0_1.length : Int) := of_decide_eq_true (by first | (with_reducible assumption) | assumption); obtain ⟨ad583, e583, hx583_0⟩ := Kd.at_int HR0_1.out (ji8) p583 q583; cases e583; replace hx583_0 := (HB.out.cell (World.block_lt_of_cell? w _ hx583_0)).trans hx583_0; replace p583 := eq_true p583; replace q583 := eq_true q583))
     go_ret
     exact ⟨by first | rfl | (simp [errW_none, errW_some] <;> rfl) | (simp only [← hji8]; first | rfl | (simp [errW_none, errW_some] <;> rfl)) | (simp [*, errW_none, errW_some] <;> rfl), bw_ HB.out⟩
    ·rw [if_neg c11] at H
     have c11b0 : ((rd l0_1 (ji8)) == 0) = false := beq_eq_false_iff_ne.mpr c11
     have c11b1 : ((rd l0_1 (ji8)) != 0) = true := bne_iff_ne.mpr c11
     by_cases c14 : (l0_1.length : Int) > 0
     ·rw [if_pos c14] at H
      have c14b0 : decide (0 < (l0_1.length : Int)) = true := decide_eq_true c14
      have c14b1 : decide (0 < l0_1.length) = true := decide_eq_true (by omega)
      clear c14
      obtain rfl := Option.some.inj H
      go_enter Tryd.func48, Tryd.ntmps48
      go_wp2_with (first | ((with_reducible refine gate_dst (N := 1) rfl ?_); refine bx_ 1 #[.bool a0_0, .slice A0_1 l0_1.length c0_1] 24 ?_; intro gb582 hg w15 hbox hb; have BK582 := Aside0.mk (hbox); have GW582 := ge_ hg HB; have GE582 := ge_ hg HB; replace HB := bq_ HB hb; clear hb hbox hg; obtain ⟨hcz16_0, hcz16_1, hfz16_0, hfz16_1⟩ := c2_ BK582; have p583 : 0 ≤ ((ji8) : Int) := of_decide_eq_true (by first | (with_reducible assumption) | assumption); have q583 : (ji8) < (l0_1.length : Int) := of_decide_eq_true (by first | (with_reducible assumption) | assumption); obtain ⟨ad583, e583, hx583_0⟩ := Kd.at_int HR0_1.out (ji8) p583 q583; cases e583; replace hx583_0 := (HB.out.cell (World.block_lt_of_cell? w _ hx583_0)).trans hx583_0; replace p583 := eq_true p583; replace q583 := eq_true q583))
      go_ret
      exact ⟨by first | rfl | (simp [errW_none, errW_some] <;> rfl) | (simp only [← hji8]; first | rfl | (simp [errW_none, errW_some] <;> rfl)) | (simp [*, errW_none, errW_some] <;> rfl), bw_ HB.out⟩
     ·rw [if_neg c14] at H
      have c14b0 : decide (0 < (l0_1.length : Int)) = false := decide_eq_false c14
      have c14b1 : decide (0 < l0_1.length) = false := decide_eq_false (by omega)
      clear c14
      obtain rfl := Option.some.inj H
      go_enter Tryd.func48, Tryd.ntmps48
      go_wp2_with (first | ((with_reducible refine gate_dst (N := 1) rfl ?_); refine bx_ 1 #[.bool a0_0, .slice A0_1 l0_1.length c0_1] 24 ?_; intro gb582 hg w17 hbox hb; have BK582 := Aside0.mk (hbox); have GW582 := ge_ hg HB; have GE582 := ge_ hg HB; replace HB := bq_ HB hb; clear hb hbox hg; obtain ⟨hcz18_0, hcz18_1, hfz18_0, hfz18_1⟩ := c2_ BK582; have p583 : 0 ≤ ((ji8) : Int) := of_decide_eq_true (by first | (with_reducible assumption) | assumption); have q583 : (ji8) < (l0_1.length : Int) := of_decide_eq_true (by first | (with_reducible assumption) | assumption); obtain ⟨ad583, e583, hx583_0⟩ := Kd.at_int HR0_1.out (ji8) p583 q583; cases e583; replace hx583_0 := (HB.out.cell (World.block_lt_of_cell? w _ hx583_0)).trans hx583_0; replace p583 := eq_true p583; replace q583 := eq_true q583))
      go_ret
      exact ⟨by first | rfl | (simp [errW_none, errW_some] <;> rfl) | (simp only [← hji8]; first | rfl | (simp [errW_none, errW_some] <;> rfl)) | (simp [*, errW_none, errW_some] <;> rfl), bw_ HB.out⟩
   ·rw [if_neg c10] at H
    exact absurd H (by simp)
  ·rw [if_neg c9] at H
   exact absurd H (by simp)

/-! ### pelorusref03_May: function 16 -/
set_option maxHeartbeats 8000000 in
set_option maxRecDepth 100000 in
theorem pelorusref03_May.calls (a0_0 : Bool) (A0_1 : Option Addr) (c0_1 : Nat) (l0_1 : List Int) (a0_2 : Int) (r : Bool) (w : World) (hr0_1 : Kd.C (Kd.int .u32) w A0_1 l0_1.length l0_1) (hc0_1 : l0_1.length ≤ c0_1) (h : pelorusref03_May.f a0_0 l0_1 a0_2 = some r) :
  Calls Tryd.prog 16 #[.agg #[.bool a0_0, .slice A0_1 l0_1.length c0_1, .int .i64 a0_2]] w fun e w' => e = .returned (.bool r) ∧ Below w.heap.size w w' := by
 have hu27 := Tryd.underlying27
 have hu24 := Tryd.underlying24
 have HR0_1 := Aside0.mk hr0_1
 have HC0_1 := Aside0.mk hc0_1
 clear hr0_1 hc0_1
 have HB := Aside0.mk (Below.refl w.heap.size w)
 have H : ((pelorusref02_May.f a0_0 l0_1).bind fun t585 => (if (l0_1.length : Int) = 0 then (if t585 = true then (some (a0_2 == 0)) else (some false)) else (if t585 = true then (if 0 < (l0_1.length : Int) then (if (Int.tmod (rd l0_1 0) 2) = 1 then (if a0_2 ≥ (-4194304) then (some (decide (a0_2 ≤ 4194304))) else (some false)) else (some false)) else (none)) else (some false)))) = some r := h
 clear h
 replace H := Option.bind_eq_some_iff.mp H
 obtain ⟨t585, A20, H⟩ := H
 (try dsimp only at H)
 have A2 := Aside0.mk A20
 clear A20
 by_cases c3 : (l0_1.length : Int) = 0
 ·rw [if_pos c3] at H
  have c3b0 : ((l0_1.length : Int) == 0) = true := beq_iff_eq.mpr c3
  have c3b1 : ((l0_1.length : Int) != 0) = false := bne_eq_false_iff_eq.mpr c3
  clear c3
  by_cases c4 : t585 = true
  ·subst c4
   have H1 : (some (a0_2 == 0)) = some r := by rw [if_pos rfl] at H; exact H
   clear H
   have H := H1
   clear H1
   obtain rfl := Option.some.inj H
   go_enter Tryd.func16, Tryd.ntmps16
   go_wp2_with (first | ((with_reducible refine gate_dst (N := 1) rfl ?_); refine bx_ 1 #[.bool a0_0, .slice A0_1 l0_1.length c0_1, .int .i64 a0_2] 27 ?_; intro gb584 hg w5 hbox hb; have BK584 := Aside0.mk (hbox); have GW584 := ge_ hg HB; have GE584 := ge_ hg HB; replace HB := bq_ HB hb; clear hb hbox hg; obtain ⟨hcz6_0, hcz6_1, hcz6_2, hfz6_0, hfz6_1, hfz6_2⟩ := c3_ BK584) | ((with_reducible refine gate_callee (f := 48) rfl ?_); refine gl_ (some 6) Tryd.func48 #[.agg #[.bool a0_0, .slice A0_1 l0_1.length c0_1]] ?_; (with_reducible refine (pelorusref02_May.calls a0_0 _ _ l0_1 true _ ?side1 ?side2 A2.out).mono ?_); (case side1 => exact kc_ (Kd.C_below HR0_1.out HB.out)); (case side2 => exact HC0_1.out); rintro e w7 ⟨rfl, hb⟩; refine ⟨_, rfl, ?_⟩; replace BK584 := kq_ BK584 hb; replace HB := bq_ HB hb; (try clear hb); (try clear hb2); (try clear hk); (try clear hi); obtain ⟨hcz8_0, hcz8_1, hcz8_2, hfz8_0, hfz8_1, hfz8_2⟩ := c3_ BK584))
   go_ret
   exact ⟨rf_, bw_ HB.out⟩
  ·replace c4 := Bool.eq_false_iff.mpr c4
   subst c4
   have H1 : (some false) = some r := by rw [if_neg (show ¬ (false = true) by decide)] at H; exact H
   clear H
   have H := H1
   clear H1
   obtain rfl := Option.some.inj H
   go_enter Tryd.func16, Tryd.ntmps16
   go_wp2_with (first | ((with_reducible refine gate_dst (N := 1) rfl ?_); refine bx_ 1 #[.bool a0_0, .slice A0_1 l0_1.length c0_1, .int .i64 a0_2] 27 ?_; intro gb584 hg w9 hbox hb; have BK584 := Aside0.mk (hbox); have GW584 := ge_ hg HB; have GE584 := ge_ hg HB; replace HB := bq_ HB hb; clear hb hbox hg; obtain ⟨hcz10_0, hcz10_1, hcz10_2, hfz10_0, hfz10_1, hfz10_2⟩ := c3_ BK584) | ((with_reducible refine gate_callee (f := 48) rfl ?_); refine gl_ (some 6) Tryd.func48 #[.agg #[.bool a0_0, .slice A0_1 l0_1.length c0_1]] ?_; (with_reducible refine (pelorusref02_May.calls a0_0 _ _ l0_1 false _ ?side1 ?side2 A2.out).mono ?_); (case side1 => exact kc_ (Kd.C_below HR0_1.out HB.out)); (case side2 => exact HC0_1.out); rintro e w11 ⟨rfl, hb⟩; refine ⟨_, rfl, ?_⟩; replace BK584 := kq_ BK584 hb; replace HB := bq_ HB hb; (try clear hb); (try clear hb2); (try clear hk); (try clear hi); obtain ⟨hcz12_0, hcz12_1, hcz12_2, hfz12_0, hfz12_1, hfz12_2⟩ := c3_ BK584))
   go_ret
   exact ⟨rf_, bw_ HB.out⟩
 ·rw [if_neg c3] at H
  have c3b0 : ((l0_1.length : Int) == 0) = false := beq_eq_false_iff_ne.mpr c3
  have c3b1 : ((l0_1.length : Int) != 0) = true := bne_iff_ne.mpr c3
  have c3b2 : ¬ (l0_1 = []) := fun h_ => c3 (by rw [h_]; rfl)
  by_cases c13 : t585 = true
  ·subst c13
   have H1 : (if 0 < (l0_1.length : Int) then (if (Int.tmod (rd l0_1 0) 2) = 1 then (if a0_2 ≥ (-4194304) then (some (decide (a0_2 ≤ 4194304))) else (some false)) else (some false)) else (none)) = some r := by rw [if_pos rfl] at H; exact H
   clear H
   have H := H1
   clear H1
   by_cases c14 : 0 < (l0_1.length : Int)
   ·rw [if_pos c14] at H
    have c14b0 : decide (0 < (l0_1.length : Int)) = true := decide_eq_true c14
    have c14b1 : decide (0 < l0_1.length) = true := decide_eq_true (by omega)
    clear c14
    by_cases c15 : (Int.tmod (rd l0_1 0) 2) = 1
    ·rw [if_pos c15] at H
     have c15b0 : ((Int.tmod (rd l0_1 0) 2) == 1) = true := beq_iff_eq.mpr c15
     have c15b1 : ((Int.tmod (rd l0_1 0) 2) != 1) = false := bne_eq_false_iff_eq.mpr c15
     clear c15
     by_cases c16 : a0_2 ≥ (-4194304)
     ·rw [if_pos c16] at H
      have c16b0 : decide ((-4194304) ≤ a0_2) = true := decide_eq_true c16
      clear c16
      obtain rfl := Option.some.inj H
      go_enter Tryd.func16, Tryd.ntmps16
      go_wp2_with (first | ((with_reducible refine gate_dst (N := 1) rfl ?_); refine bx_ 1 #[.bool a0_0, .slice A0_1 l0_1.length c0_1, .int .i64 a0_2] 27 ?_; intro gb584 hg w17 hbox hb; have BK584 := Aside0.mk (hbox); have GW584 := ge_ hg HB; have GE584 := ge_ hg HB; replace HB := bq_ HB hb; clear hb hbox hg; obtain ⟨hcz18_0, hcz18_1, hcz18_2, hfz18_0, hfz18_1, hfz18_2⟩ := c3_ BK584) | ((with_reducible refine gate_callee (f := 48) rfl ?_); refine gl_ (some 6) Tryd.func48 #[.agg #[.bool a0_0, .slice A0_1 l0_1.length c0_1]] ?_; (with_reducible refine (pelorusref02_May.calls a0_0 _ _ l0_1 true _ ?side1 ?side2 A2.out).mono ?_); (case side1 => exact kc_ (Kd.C_below HR0_1.out HB.out)); (case side2 => exact HC0_1.out); rintro e w19 ⟨rfl, hb⟩; refine ⟨_, rfl, ?_⟩; replace BK584 := kq_ BK584 hb; replace HB := bq_ HB hb; (try clear hb); (try clear hb2); (try clear hk); (try clear hi); obtain ⟨hcz20_0, hcz20_1, hcz20_2, hfz20_0, hfz20_1, hfz20_2⟩ := c3_ BK584; have p586 : 0 ≤ (0 : Int) := (by omega); have q586 : 0 < (l0_1.length : Int) := of_decide_eq_true (by first | (with_reducible assumption) | assumption); obtain ⟨ad586, e586, hx586_0⟩ := Kd.at_int HR0_1.out 0 p586 q586; cases e586; have qi586 : (0 < l0_1.length) = True := eq_true (by omega); (try rw [show ((0 : Int)).toNat = 0 from rfl] at hx586_0); (try rw [Addr.add_zero'] at hx586_0); replace hx586_0 := (HB.out.cell (World.block_lt_of_cell? w _ hx586_0)).trans hx586_0; replace p586 := eq_true p586; replace q586 := eq_true q586))
      go_ret
      exact ⟨rf_, bw_ HB.out⟩
     ·rw [if_neg c16] at H
      have c16b0 : decide ((-4194304) ≤ a0_2) = false := decide_eq_false c16
      clear c16
      obtain rfl := Option.some.inj H
      go_enter Tryd.func16, Tryd.ntmps16
      go_wp2_with (first | ((with_reducible refine gate_dst (N := 1) rfl ?_); refine bx_ 1 #[.bool a0_0, .slice A0_1 l0_1.length c0_1, .int .i64 a0_2] 27 ?_; intro gb584 hg w21 hbox hb; have BK584 := Aside0.mk (hbox); have GW584 := ge_ hg HB; have GE584 := ge_ hg HB; replace HB := bq_ HB hb; clear hb hbox hg; obtain ⟨hcz22_0, hcz22_1, hcz22_2, hfz22_0, hfz22_1, hfz22_2⟩ := c3_ BK584) | ((with_reducible refine gate_callee (f := 48) rfl ?_); refine gl_ (some 6) Tryd.func48 #[.agg #[.bool a0_0, .slice A0_1 l0_1.length c0_1]] ?_; (with_reducible refine (pelorusref02_May.calls a0_0 _ _ l0_1 true _ ?side1 ?side2 A2.out).mono ?_); (case side1 => exact kc_ (Kd.C_below HR0_1.out HB.out)); (case side2 => exact HC0_1.out); rintro e w23 ⟨rfl, hb⟩; refine ⟨_, rfl, ?_⟩; replace BK584 := kq_ BK584 hb; replace HB := bq_ HB hb; (try clear hb); (try clear hb2); (try clear hk); (try clear hi); obtain ⟨hcz24_0, hcz24_1, hcz24_2, hfz24_0, hfz24_1, hfz24_2⟩ := c3_ BK584; have p586 : 0 ≤ (0 : Int) := (by omega); have q586 : 0 < (l0_1.length : Int) := of_decide_eq_true (by first | (with_reducible assumption) | assumption); obtain ⟨ad586, e586, hx586_0⟩ := Kd.at_int HR0_1.out 0 p586 q586; cases e586; have qi586 : (0 < l0_1.length) = True := eq_true (by omega); (try rw [show ((0 : Int)).toNat = 0 from rfl] at hx586_0); (try rw [Addr.add_zero'] at hx586_0); replace hx586_0 := (HB.out.cell (World.block_lt_of_cell? w _ hx586_0)).trans hx586_0; replace p586 := eq_true p586; replace q586 := eq_true q586))
      go_ret
      exact ⟨rf_, bw_ HB.out⟩
    ·rw [if_neg c15] at H
     have c15b0 : ((Int.tmod (rd l0_1 0) 2) == 1) = false := beq_eq_false_iff_ne.mpr c15
     have c15b1 : ((Int.tmod (rd l0_1 0) 2) != 1) = true := bne_iff_ne.mpr c15
     obtain rfl := Option.some.inj H
     go_enter Tryd.func16, Tryd.ntmps16
     go_wp2_with (first | ((with_reducible refine gate_dst (N := 1) rfl ?_); refine bx_ 1 #[.bool a0_0, .slice A0_1 l0_1.length c0_1, .int .i64 a0_2] 27 ?_; intro gb584 hg w25 hbox hb; have BK584 := Aside0.mk (hbox); have GW584 := ge_ hg HB; have GE584 := ge_ hg HB; replace HB := bq_ HB hb; clear hb hbox hg; obtain ⟨hcz26_0, hcz26_1, hcz26_2, hfz26_0, hfz26_1, hfz26_2⟩ := c3_ BK584) | ((with_reducible refine gate_callee (f := 48) rfl ?_); refine gl_ (some 6) Tryd.func48 #[.agg #[.bool a0_0, .slice A0_1 l0_1.length c0_1]] ?_; (with_reducible refine (pelorusref02_May.calls a0_0 _ _ l0_1 true _ ?side1 ?side2 A2.out).mono ?_); (case side1 => exact kc_ (Kd.C_below HR0_1.out HB.out)); (case side2 => exact HC0_1.out); rintro e w27 ⟨rfl, hb⟩; refine ⟨_, rfl, ?_⟩; replace BK584 := kq_ BK584 hb; replace HB := bq_ HB hb; (try clear hb); (try clear hb2); (try clear hk); (try clear hi); obtain ⟨hcz28_0, hcz28_1, hcz28_2, hfz28_0, hfz28_1, hfz28_2⟩ := c3_ BK584; have p586 : 0 ≤ (0 : Int) := (by omega); have q586 : 0 < (l0_1.length : Int) := of_decide_eq_true (by first | (with_reducible assumption) | assumption); obtain ⟨ad586, e586, hx586_0⟩ := Kd.at_int HR0_1.out 0 p586 q586; cases e586; have qi586 : (0 < l0_1.length) = True := eq_true (by omega); (try rw [show ((0 : Int)).toNat = 0 from rfl] at hx586_0); (try rw [Addr.add_zero'] at hx586_0); replace hx586_0 := (HB.out.cell (World.block_lt_of_cell? w _ hx586_0)).trans hx586_0; replace p586 := eq_true p586; replace q586 := eq_true q586))
     go_ret
     exact ⟨rf_, bw_ HB.out⟩
   ·rw [if_neg c14] at H
    exact absurd H (by simp)
  ·replace c13 := Bool.eq_false_iff.mpr c13
   subst c13
   have H1 : (some false) = some r := by rw [if_neg (show ¬ (false = true) by decide)] at H; exact H
   clear H
   have H := H1
   clear H1
   obtain rfl := Option.some.inj H
   go_enter Tryd.func16, Tryd.ntmps16
   go_wp2_with (first | ((with_reducible refine gate_dst (N := 1) rfl ?_); refine bx_ 1 #[.bool a0_0, .slice A0_1 l0_1.length c0_1, .int .i64 a0_2] 27 ?_; intro gb584 hg w29 hbox hb; have BK584 := Aside0.mk (hbox); have GW584 := ge_ hg HB; have GE584 := ge_ hg HB; replace HB := bq_ HB hb; clear hb hbox hg; obtain ⟨hcz30_0, hcz30_1, hcz30_2, hfz30_0, hfz30_1, hfz30_2⟩ := c3_ BK584) | ((with_reducible refine gate_callee (f := 48) rfl ?_); refine gl_ (some 6) Tryd.func48 #[.agg #[.bool a0_0, .slice A0_1 l0_1.length c0_1]] ?_; (with_reducible refine (pelorusref02_May.calls a0_0 _ _ l0_1 false _ ?side1 ?side2 A2.out).mono ?_); (case side1 => exact kc_ (Kd.C_below HR0_1.out HB.out)); (case side2 => exact HC0_1.out); rintro e w31 ⟨rfl, hb⟩; refine ⟨_, rfl, ?_⟩; replace BK584 := kq_ BK584 hb; replace HB := bq_ HB hb; (try clear hb); (try clear hb2); (try clear hk); (try clear hi); obtain ⟨hcz32_0, hcz32_1, hcz32_2, hfz32_0, hfz32_1, hfz32_2⟩ := c3_ BK584))
   go_ret
   exact ⟨rf_, bw_ HB.out⟩

/-! ### pelorusref03_Sign: function 18 -/
set_option maxHeartbeats 8000000 in
set_option maxRecDepth 100000 in
theorem pelorusref03_Sign.calls (k : Nat) (a0_0 : Bool) (A0_1 : Option Addr) (c0_1 : Nat) (l0_1 : List Int) (a0_2 : Int) (r : Int) (w : World) (hr0_1 : Kd.C (Kd.int .u32) w A0_1 l0_1.length l0_1) (hc0_1 : l0_1.length ≤ c0_1) (h : pelorusref03_Sign.f k a0_0 l0_1 a0_2 = some r) :
  Calls Tryd.prog 18 #[.agg #[.bool a0_0, .slice A0_1 l0_1.length c0_1, .int .i64 a0_2]] w fun e w' => e = .returned (.int .i64 r) ∧ Below w.heap.size w w' := by
 have hu27 := Tryd.underlying27
 have hu24 := Tryd.underlying24
 have HR0_1 := Aside0.mk hr0_1
 have HC0_1 := Aside0.mk hc0_1
 clear hr0_1 hc0_1
 have HB := Aside0.mk (Below.refl w.heap.size w)
 have H : ((pelorusref03_Make.f k a0_0 l0_1 a0_2).bind fun bt601 => ((pelorusref02_Sign.f k bt601.1 bt601.2.1).bind fun t607 => (some t607))) = some r := h
 clear h
 replace H := Option.bind_eq_some_iff.mp H
 obtain ⟨⟨t601, t602, t605⟩, A20, H⟩ := H
 (try dsimp only at H)
 have A2 := Aside0.mk A20
 clear A20
 replace H := Option.bind_eq_some_iff.mp H
 obtain ⟨t607, A30, H⟩ := H
 (try dsimp only at H)
 have A3 := Aside0.mk A30
 clear A30
 obtain rfl := Option.some.inj H
 go_enter Tryd.func18, Tryd.ntmps18
 go_wp2_with (first | ((with_reducible refine gate_dst (N := 1) rfl ?_); refine bx_ 1 #[.bool a0_0, .slice A0_1 l0_1.length c0_1, .int .i64 a0_2] 27 ?_; intro gb600 hg w4 hbox hb; have BK600 := Aside0.mk (hbox); have GW600 := ge_ hg HB; have GE600 := ge_ hg HB; replace HB := bq_ HB hb; clear hb hbox hg; obtain ⟨hcz5_0, hcz5_1, hcz5_2, hfz5_0, hfz5_1, hfz5_2⟩ := c3_ BK600) | ((with_reducible refine gate_callee (f := 12) rfl ?_); refine gl_ (some 8) Tryd.func12 #[.agg #[.bool a0_0, .slice A0_1 l0_1.length c0_1], .int .i64 a0_2] ?_; (with_reducible refine (pelorusref03_Make.calls k a0_0 _ _ l0_1 a0_2 t601 t602 t605 _ ?side1 ?side2 A2.out).mono ?_); (case side1 => exact kc_ (Kd.C_below HR0_1.out HB.out)); (case side2 => exact HC0_1.out); rintro e w6 ⟨v603, rfl, ho0, hb⟩; refine ⟨_, rfl, ?_⟩; have HO604 := Aside0.mk (Kd.R_lower ho0 (below_size (bw_ HB.out))); replace BK600 := kq_ BK600 hb; replace HB := bq_ HB hb; (try clear hb); (try clear hb2); (try clear hk); (try clear hi); (try clear ho0)) | ((with_reducible refine gate_dst (N := 3) rfl ?_); refine bx_ 3 #[.bool false, .slice none 0 0, .int .i64 0] 27 ?_; intro gb606 hg w7 hbox hb; have BK606 := Aside0.mk (hbox); have GW606 := ge_ hg HB; have GE606 := ge_ hg HB; have NB600_606 := nb_ hg BK600; have NB606_600 := nc_ hg BK600; replace HO604 := Aside0.mk (Kd.R_below (kr_ HO604.out) hb); replace BK600 := kq_ BK600 hb; replace HB := bq_ HB hb; clear hb hbox hg; have hnb8 := NB606_600.out; have hnc8 := NB600_606.out; obtain ⟨hcz9_0, hcz9_1, hcz9_2, hfz9_0, hfz9_1, hfz9_2⟩ := c3_ BK606; obtain ⟨Ao10, co10, eo10⟩ := Kd.R_slice HO604.out; subst eo10) | ((with_reducible refine gate_callee (f := 49) rfl ?_); refine gl_ (some 11) Tryd.func49 #[.agg #[.bool t601, .slice Ao10 t602.length co10]] ?_; (with_reducible refine (pelorusref02_Sign.calls k t601 _ _ t602 t607 _ ?side1 ?side2 A3.out).mono ?_); (case side1 => refine (Kd.R_reads' (e := 51) (base := w.heap.size) (ok := fun k_ => True) (n := t602.length) (c := co10) ?_).2.2; exact (kr_ ((Kd.R_mono (Kd.R_far (p := ⟨gb606, 2, none⟩) (Kd.R_far (p := ⟨gb606, 1, none⟩) (Kd.R_far (p := ⟨gb606, 0, none⟩) (Kd.R_types HO604.out BK606.out (by decide)) (fun _ hk => hk.2) (.bool t601)) (fun _ hk => hk.2) (.slice Ao10 t602.length co10)) (fun _ hk => hk.2) (.int .i64 t605)) (fun _ h_ => h_.1))))); (case side2 => exact (Kd.R_reads' HO604.out).2.1); rintro e w11 ⟨rfl, hb⟩; refine ⟨_, rfl, ?_⟩; have n0_ := Aside0.mk (Kd.R_below (kr_ ((Kd.R_mono (Kd.R_far (p := ⟨gb606, 2, none⟩) (Kd.R_far (p := ⟨gb606, 1, none⟩) (Kd.R_far (p := ⟨gb606, 0, none⟩) (Kd.R_types HO604.out BK606.out (by decide)) (fun _ hk => hk.2) (.bool t601)) (fun _ hk => hk.2) (.slice Ao10 t602.length co10)) (fun _ hk => hk.2) (.int .i64 t605)) (fun _ h_ => h_.1)))) hb); have n1_ := Aside0.mk (blk_below (g := gb600) (o := .cells #[.bool a0_0, .slice A0_1 l0_1.length c0_1, .int .i64 a0_2] 27 (0, 0)) (by refine kb_ ?_; refine bf_ NB600_606 ?_; refine bf_ NB600_606 ?_; refine bf_ NB600_606 ?_; exact BK600.out) hb); have n2_ := Aside0.mk (blk_below (g := gb606) (o := .cells #[.bool t601, .slice Ao10 t602.length co10, .int .i64 t605] 27 (0, 0)) (by refine kb_ ?_; refine bp_ #[.bool t601, .slice Ao10 t602.length co10, .int .i64 0] 2 ?_; refine bp_ #[.bool t601, .slice none 0 0, .int .i64 0] 1 ?_; refine bp_ #[.bool false, .slice none 0 0, .int .i64 0] 0 ?_; exact BK606.out) hb); have n3_ := bq_ HB hb; clear HO604; clear BK600; clear BK606; clear HB; have HO604 := n0_; have BK600 := n1_; have BK606 := n2_; have HB := n3_; clear n0_ n1_ n2_ n3_; (try clear hb); (try clear hb2); (try clear hk); (try clear hi)))
 go_ret
 exact ⟨rf_, bw_ HB.out⟩

end Go.Proofs.YtaookeneeemfbaaDoor.PA
