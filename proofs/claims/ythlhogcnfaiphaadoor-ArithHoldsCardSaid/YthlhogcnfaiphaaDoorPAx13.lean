-- Laid by this work's own program; Lean checks it.
import Derived.Test.YthlhogcnfaiphaaDoorPAx0
import Derived.Test.YthlhogcnfaiphaaDoorPAx2
import Derived.Test.YthlhogcnfaiphaaDoorPAx7
import Derived.Test.YthlhogcnfaiphaaDoorPAx8
import Derived.Test.YthlhogcnfaiphaaDoorPAx12
namespace Go.Proofs.YthlhogcnfaiphaaDoor.PA
open Go.RowKit Go.Proofs.YthlhogcnfaiphaaDoorW.PrintWords Go.Proofs.YthlhogcnfaiphaaDoorW.PrintLast Go.Proofs.YthlhogcnfaiphaaDoorW.PrintMore
attribute [local go_sem] max2_int min2_int max_two min_two max_three min_three max_four min_four   -- for this text's walks alone
set_option linter.unusedVariables false
set_option linter.unusedSimpArgs false

attribute [local go_sem ↓ high] isSome_set_
/-! ### dy_Mul: function 8 -/
theorem dy_Mul.tab2 : rtab .any (opsOf Tryd.f8 2) = dy_Mul.T2 := by kernel_rfl
theorem dy_Mul.bits2 : waitsOk dy_Mul.T2.2 dy_Mul.B2 = true := by kernel_rfl
set_option maxHeartbeats 8000000 in
set_option maxRecDepth 100000 in
theorem dy_Mul.calls (k : Nat) (a0_0 : Bool) (A0_1 : Option Addr) (c0_1 : Nat) (l0_1 : List Int) (a0_2 : Int) (a1_0 : Bool) (A1_1 : Option Addr) (c1_1 : Nat) (l1_1 : List Int) (a1_2 : Int) (r1 : Bool) (r2 : List Int) (r3 : Int) (w : World) (hr0_1 : Kd.C (Kd.int .u32) w A0_1 l0_1.length l0_1) (hc0_1 : l0_1.length ≤ c0_1) (hr1_1 : Kd.C (Kd.int .u32) w A1_1 l1_1.length l1_1) (hc1_1 : l1_1.length ≤ c1_1) (h : dy_Mul.f k a0_0 l0_1 a0_2 a1_0 l1_1 a1_2 = some (r1, r2, r3)) (htab_ : Kd.C (Kd.int .u8) w (some ⟨0, 0, none⟩) 32 tz32tab) :
  Calls Tryd.prog 8 #[.agg #[.bool a0_0, .slice A0_1 l0_1.length c0_1, .int .i64 a0_2], .agg #[.bool a1_0, .slice A1_1 l1_1.length c1_1, .int .i64 a1_2]] w fun e w' => ∃ v1_ : Value, e = .returned (.agg #[.bool r1, v1_, .int .i64 r3]) ∧ Kd.R (Kd.int .u32) 44 w' w.heap.size (fun _ => True) v1_ r2 ∧ Below w.heap.size w w' := by
 have HTAB := Aside0.mk htab_
 clear htab_
 have hu31 := Tryd.underlying31
 have hu29 := Tryd.underlying29
 have HR0_1 := Aside0.mk hr0_1
 have HC0_1 := Aside0.mk hc0_1
 clear hr0_1 hc0_1
 have HR1_1 := Aside0.mk hr1_1
 have HC1_1 := Aside0.mk hc1_1
 clear hr1_1 hc1_1
 have HB := Aside0.mk (Below.refl w.heap.size w)
 have H : ((dy_fair.f k a0_0 l0_1 a0_2).bind fun bt588 => ((dy_fair.f k a1_0 l1_1 a1_2).bind fun bt593 => ((whole_Mul.f k (([(⟨bt588.1, bt588.2.1⟩ : S29), (⟨bt593.1, bt593.2.1⟩ : S29)] : List (S29)))).bind fun bt601 => ((dy_Make.f k bt601.1 bt601.2 (wrap64 (bt588.2.2 + bt593.2.2))).bind fun bt605 => (some (bt605.1, bt605.2.1, bt605.2.2)))))) = some (r1, r2, r3) := h
 clear h
 replace H := Option.bind_eq_some_iff.mp H
 obtain ⟨⟨t588, t589, t592⟩, A30, H⟩ := H
 (try dsimp only at H)
 have A3 := Aside0.mk A30
 clear A30
 replace H := Option.bind_eq_some_iff.mp H
 obtain ⟨⟨t593, t594, t597⟩, A40, H⟩ := H
 (try dsimp only at H)
 have A4 := Aside0.mk A40
 clear A40
 obtain ⟨y598, hy598⟩ : ∃ y_ : List (S29), y_ = (([(⟨t588, t589⟩ : S29), (⟨t593, t594⟩ : S29)] : List (S29))) := ⟨_, rfl⟩
 replace H : ((whole_Mul.f k y598).bind fun bt601 => ((dy_Make.f k bt601.1 bt601.2 (wrap64 (t592 + t597))).bind fun bt605 => (some (bt605.1, bt605.2.1, bt605.2.2)))) = some (r1, r2, r3) := by first | (rw [hy598]; with_reducible exact H) | (have H2_ := (Option.bind_some _ _).symm.trans H; rw [hy598]; with_reducible exact H2_) | (have H2_ := (Option.bind_some _ _).symm.trans H; with_reducible exact H2_) | with_reducible exact H | (rw [hy598]; exact H) | exact H
 have Ny598 := Aside0.mk hy598
 clear hy598
 replace H := Option.bind_eq_some_iff.mp H
 obtain ⟨⟨t601, t602⟩, A50, H⟩ := H
 (try dsimp only at H)
 have A5 := Aside0.mk A50
 clear A50
 replace H := Option.bind_eq_some_iff.mp H
 obtain ⟨⟨t605, t606, t609⟩, A60, H⟩ := H
 (try dsimp only at H)
 have A6 := Aside0.mk A60
 clear A60
 simp only [Option.some.injEq, Prod.mk.injEq] at H
 obtain ⟨rfl, rfl, rfl⟩ := H
 go_enter Tryd.func8, Tryd.ntmps8
 try go_wp2_with (first | ((with_reducible refine gate_dst (N := 2) rfl ?_); refine bx_ 2 #[.bool a0_0, .slice A0_1 l0_1.length c0_1, .int .i64 a0_2] 31 ?_; intro gb585 hg w7 hbox hb; have BK585 := Aside0.mk (hbox); have GW585 := ge_ hg HB; have GE585 := ge_ hg HB; replace HB := bq_ HB hb; clear hb hbox hg) | ((with_reducible refine gate_dst (N := 3) rfl ?_); refine bx_ 3 #[.bool a1_0, .slice A1_1 l1_1.length c1_1, .int .i64 a1_2] 31 ?_; intro gb586 hg w8 hbox hb; have BK586 := Aside0.mk (hbox); have GW586 := ge_ hg HB; have GE586 := ge_ hg HB; have NB585_586 := nb_ hg BK585; have NB586_585 := nc_ hg BK585; replace BK585 := kq_ BK585 hb; replace HB := bq_ HB hb; clear hb hbox hg) | ((with_reducible refine gate_dst (N := 4) rfl ?_); refine bx_ 4 #[.bool false, .slice none 0 0, .int .i64 0] 31 ?_; intro gb587 hg w9 hbox hb; have BK587 := Aside0.mk (hbox); have GW587 := ge_ hg HB; have GE587 := ge_ hg HB; have NB585_587 := nb_ hg BK585; have NB587_585 := nc_ hg BK585; have NB586_587 := nb_ hg BK586; have NB587_586 := nc_ hg BK586; replace BK585 := kq_ BK585 hb; replace BK586 := kq_ BK586 hb; replace HB := bq_ HB hb; clear hb hbox hg))
 replace BK585 := Aside0.mk (blk_drew BK585.out)
 replace BK586 := Aside0.mk (blk_drew BK586.out)
 replace BK587 := Aside0.mk (blk_drew BK587.out)
 replace HB := Aside0.mk (below_drew1 HB.out)
 refine start_ (n := 6) (S := fun w' => w'.cell? ⟨gb585, 0, none⟩ = some (.bool a0_0) ∧ w'.cell? ⟨gb585, 1, none⟩ = some (.slice A0_1 l0_1.length c0_1) ∧ w'.cell? ⟨gb585, 2, none⟩ = some (.int .i64 a0_2) ∧ w'.cell? ⟨gb586, 0, none⟩ = some (.bool a1_0) ∧ w'.cell? ⟨gb586, 1, none⟩ = some (.slice A1_1 l1_1.length c1_1) ∧ w'.cell? ⟨gb586, 2, none⟩ = some (.int .i64 a1_2)) (ds := [4, 5]) #[false, false, false, false, false, false] (by kernel_rfl) rfl rfl ⟨(blk_cell BK585.out 0).trans rfl, (blk_cell BK585.out 1).trans rfl, (blk_cell BK585.out 2).trans rfl, (blk_cell BK586.out 0).trans rfl, (blk_cell BK586.out 1).trans rfl, (blk_cell BK586.out 2).trans rfl⟩ (fun hHeld => ?_)
 generalize w9.drew = w10 at BK585 BK586 BK587 HB hHeld ⊢
 refine take_ (i := 0) (N := some 5) (v := ?_) (a' := ?_) #[true, false, false, false, false, false] rfl rfl (by kernel_rfl) (fun _ _ _ h => h) (Or.inl ⟨by rfl, ?_⟩) hHeld ?_ ?_
 rotate_left
 ·rintro w' ⟨s0, s1, s2, s3, s4, s5⟩
  go_simp
  with_reducible rfl
 rotate_left
 ·exact pt_
 refine take_ (i := 2) (N := some 7) (v := ?_) (a' := ?_) #[true, false, true, false, false, false] rfl rfl (by kernel_rfl) (fun _ _ _ h => h) (Or.inl ⟨by rfl, ?_⟩) hHeld ?_ ?_
 rotate_left
 ·rintro w' ⟨s0, s1, s2, s3, s4, s5⟩
  go_simp
  with_reducible rfl
 rotate_left
 ·exact pt_
 refine one_ (i := 1) (N := some 6) #[true, true, true, false, false, false] rfl rfl (by kernel_rfl) (by decide) (fun K hK => ?_)
 refine gs_ Tryd.func19 #[.agg #[.bool a0_0, .slice A0_1 l0_1.length c0_1, .int .i64 a0_2]] ?_
 with_reducible refine (dy_fair.calls k a0_0 (fun k_ => k_ < w.heap.size) _ _ l0_1 a0_2 t588 t589 t592 _ ?side1 A3.out ?sidet).mono ?_
 (case sidet => exact Kd.C_below HTAB.out (bw_ HB.out))
 (case side1 => exact Kd.V_mk HC0_1.out (Kd.F_below (Kd.C_F (Kd.heap_int .u32) HR0_1.out) (bw_ HB.out)))
 rintro e w11 ⟨v590, rfl, ho0, hb⟩
 refine ⟨_, rfl, ?_⟩
 have n0_ := Aside0.mk (Kd.V_lower (Kd.V_mono (ok' := fun k_ => k_ ≠ gb585 ∧ k_ ≠ gb586 ∧ k_ ≠ gb587) ho0 (fun k_ hk_ => ⟨Or.elim hk_ (fun hs_ => fun e_ => Nat.not_le.2 hs_ (by rw [e_]; exact GW585.out)) (fun hn_ => (Kd.freshB (g := gb585) (o := .cells #[.bool a0_0, .slice A0_1 l0_1.length c0_1, .int .i64 a0_2] 31 (0, 0)) (kb_ BK585.out) k_ hn_)), Or.elim hk_ (fun hs_ => fun e_ => Nat.not_le.2 hs_ (by rw [e_]; exact GW586.out)) (fun hn_ => (Kd.freshB (g := gb586) (o := .cells #[.bool a1_0, .slice A1_1 l1_1.length c1_1, .int .i64 a1_2] 31 (0, 0)) (kb_ BK586.out) k_ hn_)), Or.elim hk_ (fun hs_ => fun e_ => Nat.not_le.2 hs_ (by rw [e_]; exact GW587.out)) (fun hn_ => (Kd.freshB (g := gb587) (o := .cells #[.bool false, .slice none 0 0, .int .i64 0] 31 (0, 0)) (kb_ BK587.out) k_ hn_))⟩)) (below_size (bw_ HB.out)))
 have n1_ := kq_ BK585 hb
 have n2_ := kq_ BK586 hb
 have n3_ := kq_ BK587 hb
 have n4_ := bq_ HB hb
 clear BK585
 clear BK586
 clear BK587
 clear HB
 have HO591 := n0_
 have BK585 := n1_
 have BK586 := n2_
 have BK587 := n3_
 have HB := n4_
 clear n0_ n1_ n2_ n3_ n4_
 (try clear hb)
 (try clear hb2)
 (try clear hk)
 (try clear hi)
 (try clear ho0)
 refine hK.out _ _ ⟨(blk_cell BK585.out 0).trans rfl, (blk_cell BK585.out 1).trans rfl, (blk_cell BK585.out 2).trans rfl, (blk_cell BK586.out 0).trans rfl, (blk_cell BK586.out 1).trans rfl, (blk_cell BK586.out 2).trans rfl⟩ (fun hHeld => ?_)
 clear hK K
 refine norm_ (a' := ?_) ?_ ?_
 rotate_left
 ·show Act.put _ (some 6) _ = _
  exact pt_
 refine one_ (i := 3) (N := some 8) #[true, true, true, true, false, false] rfl rfl (by kernel_rfl) (by decide) (fun K hK => ?_)
 refine gs_ Tryd.func19 #[.agg #[.bool a1_0, .slice A1_1 l1_1.length c1_1, .int .i64 a1_2]] ?_
 with_reducible refine (dy_fair.calls k a1_0 (fun k_ => k_ < w.heap.size) _ _ l1_1 a1_2 t593 t594 t597 _ ?side1 A4.out ?sidet).mono ?_
 (case sidet => exact Kd.C_below HTAB.out (bw_ HB.out))
 (case side1 => exact Kd.V_mk HC1_1.out (Kd.F_below (Kd.C_F (Kd.heap_int .u32) HR1_1.out) (bw_ HB.out)))
 rintro e w12 ⟨v595, rfl, ho0, hb⟩
 refine ⟨_, rfl, ?_⟩
 have n0_ := Aside0.mk (Kd.V_below (by (with_reducible repeat (first | apply Kd.V_alloc | apply Kd.V_drewN | apply Kd.V_drew)); exact HO591.out) hb)
 have n1_ := Aside0.mk (Kd.V_lower (Kd.V_mono (ok' := fun k_ => k_ ≠ gb585 ∧ k_ ≠ gb586 ∧ k_ ≠ gb587) ho0 (fun k_ hk_ => ⟨Or.elim hk_ (fun hs_ => fun e_ => Nat.not_le.2 hs_ (by rw [e_]; exact GW585.out)) (fun hn_ => (Kd.freshB (g := gb585) (o := .cells #[.bool a0_0, .slice A0_1 l0_1.length c0_1, .int .i64 a0_2] 31 (0, 0)) (kb_ BK585.out) k_ hn_)), Or.elim hk_ (fun hs_ => fun e_ => Nat.not_le.2 hs_ (by rw [e_]; exact GW586.out)) (fun hn_ => (Kd.freshB (g := gb586) (o := .cells #[.bool a1_0, .slice A1_1 l1_1.length c1_1, .int .i64 a1_2] 31 (0, 0)) (kb_ BK586.out) k_ hn_)), Or.elim hk_ (fun hs_ => fun e_ => Nat.not_le.2 hs_ (by rw [e_]; exact GW587.out)) (fun hn_ => (Kd.freshB (g := gb587) (o := .cells #[.bool false, .slice none 0 0, .int .i64 0] 31 (0, 0)) (kb_ BK587.out) k_ hn_))⟩)) (below_size (bw_ HB.out)))
 have n2_ := kq_ BK585 hb
 have n3_ := kq_ BK586 hb
 have n4_ := kq_ BK587 hb
 have n5_ := bq_ HB hb
 clear HO591
 clear BK585
 clear BK586
 clear BK587
 clear HB
 have HO591 := n0_
 have HO596 := n1_
 have BK585 := n2_
 have BK586 := n3_
 have BK587 := n4_
 have HB := n5_
 clear n0_ n1_ n2_ n3_ n4_ n5_
 (try clear hb)
 (try clear hb2)
 (try clear hk)
 (try clear hi)
 (try clear ho0)
 obtain ⟨Ao14, co14, eo14⟩ := Kd.V_slice HO591.out
 (first | subst eo14 | (injection eo14 with f1_ f2_ f3_; have f4_ := f1_.symm; have f5_ := f3_.symm; clear f1_ f2_ f3_; subst f4_; subst f5_))
 obtain ⟨Ao18, co18, eo18⟩ := Kd.V_slice HO596.out
 (first | subst eo18 | (injection eo18 with f1_ f2_ f3_; have f4_ := f1_.symm; have f5_ := f3_.symm; clear f1_ f2_ f3_; subst f4_; subst f5_))
 refine hK.out _ _ ⟨(blk_cell BK585.out 0).trans rfl, (blk_cell BK585.out 1).trans rfl, (blk_cell BK585.out 2).trans rfl, (blk_cell BK586.out 0).trans rfl, (blk_cell BK586.out 1).trans rfl, (blk_cell BK586.out 2).trans rfl⟩ (fun hHeld => ?_)
 clear hK K
 refine norm_ (a' := ?_) ?_ ?_
 rotate_left
 ·show Act.put _ (some 8) _ = _
  exact pt_
 refine last_ (i := 4) (N := none) #[true, true, true, true, true, false] rfl rfl (by kernel_rfl) (by decide) (fun K hK => ?_)
 have hs13 : w12.cell? ⟨gb585, 0, none⟩ = some (.bool a0_0) := (blk_cell BK585.out 0).trans rfl
 have hfs13 := fz_ BK585 0
 have hns13_1 := NB586_585.out
 have hns13_2 := NB587_585.out
 have hms13_1 := NB585_586.out
 have hms13_2 := NB585_587.out
 have hs15 : w12.cell? ⟨gb585, 1, none⟩ = some (.slice A0_1 l0_1.length c0_1) := (blk_cell BK585.out 1).trans rfl
 have hfs15 := fz_ BK585 1
 have hns15_1 := NB586_585.out
 have hns15_2 := NB587_585.out
 have hms15_1 := NB585_586.out
 have hms15_2 := NB585_587.out
 have hs16 : w12.cell? ⟨gb585, 2, none⟩ = some (.int .i64 a0_2) := (blk_cell BK585.out 2).trans rfl
 have hfs16 := fz_ BK585 2
 have hns16_1 := NB586_585.out
 have hns16_2 := NB587_585.out
 have hms16_1 := NB585_586.out
 have hms16_2 := NB585_587.out
 refine skip_ (w1 := ?_) (by rfl) rfl ?_ ?_
 rotate_left
 ·go_simp
  rfl
 refine hK.out _ _ ?_
 clear hK K
 refine last_ (i := 5) (N := none) #[true, true, true, true, true, true] rfl rfl (by kernel_rfl) (by decide) (fun K hK => ?_)
 have hs17 : w12.cell? ⟨gb586, 0, none⟩ = some (.bool a1_0) := (blk_cell BK586.out 0).trans rfl
 have hfs17 := fz_ BK586 0
 have hns17_0 := NB585_586.out
 have hns17_2 := NB587_586.out
 have hms17_0 := NB586_585.out
 have hms17_2 := NB586_587.out
 have hs19 : w12.cell? ⟨gb586, 1, none⟩ = some (.slice A1_1 l1_1.length c1_1) := (blk_cell BK586.out 1).trans rfl
 have hfs19 := fz_ BK586 1
 have hns19_0 := NB585_586.out
 have hns19_2 := NB587_586.out
 have hms19_0 := NB586_585.out
 have hms19_2 := NB586_587.out
 have hs20 : w12.cell? ⟨gb586, 2, none⟩ = some (.int .i64 a1_2) := (blk_cell BK586.out 2).trans rfl
 have hfs20 := fz_ BK586 2
 have hns20_0 := NB585_586.out
 have hns20_2 := NB587_586.out
 have hms20_0 := NB586_585.out
 have hms20_2 := NB586_587.out
 refine skip_ (w1 := ?_) (by rfl) rfl ?_ ?_
 rotate_left
 ·go_simp
  rfl
 refine hK.out _ _ ?_
 clear hK K
 refine done_ (by kernel_rfl) ?_
 try go_wp2
 have n0_ : Aside0 (Kd.V (Kd.int .u32) 44 ((((((w12.setCell ⟨gb585, 0, none⟩ (.bool t588)).setCell ⟨gb585, 1, none⟩ (.slice Ao14 t589.length co14)).setCell ⟨gb585, 2, none⟩ (.int .i64 t592)).setCell ⟨gb586, 0, none⟩ (.bool t593)).setCell ⟨gb586, 1, none⟩ (.slice Ao18 t594.length co18)).setCell ⟨gb586, 2, none⟩ (.int .i64 t597)) w.heap.size (fun k_ => k_ ≠ gb585 ∧ k_ ≠ gb586 ∧ k_ ≠ gb587) (.slice Ao14 t589.length co14) t589) := ⟨by (with_reducible repeat (first | apply Kd.V_alloc | apply Kd.V_drewN | apply Kd.V_drew)); exact Kd.V_mono (Kd.V_far (p := ⟨gb586, 2, none⟩) (Kd.V_far (p := ⟨gb586, 1, none⟩) (Kd.V_far (p := ⟨gb586, 0, none⟩) (Kd.V_far (p := ⟨gb585, 2, none⟩) (Kd.V_far (p := ⟨gb585, 1, none⟩) (Kd.V_far (p := ⟨gb585, 0, none⟩) (Kd.V_mono (Kd.V_mono HO591.out (fun k_ hk => (⟨hk, hk.1⟩ : _ ∧ k_ ≠ gb585))) (fun k_ hk => (⟨hk, hk.1.2.1⟩ : _ ∧ k_ ≠ gb586))) (fun _ hk => hk.1.2) (.bool t588)) (fun _ hk => hk.1.2) (.slice Ao14 t589.length co14)) (fun _ hk => hk.1.2) (.int .i64 t592)) (fun _ hk => hk.2) (.bool t593)) (fun _ hk => hk.2) (.slice Ao18 t594.length co18)) (fun _ hk => hk.2) (.int .i64 t597)) (fun _ hk => by first | exact ⟨hk.1.1.1, ⟨hk.1.1.2.1, hk.1.1.2.2⟩⟩ | simp [hk])⟩
 have n1_ : Aside0 (Kd.V (Kd.int .u32) 44 ((((((w12.setCell ⟨gb585, 0, none⟩ (.bool t588)).setCell ⟨gb585, 1, none⟩ (.slice Ao14 t589.length co14)).setCell ⟨gb585, 2, none⟩ (.int .i64 t592)).setCell ⟨gb586, 0, none⟩ (.bool t593)).setCell ⟨gb586, 1, none⟩ (.slice Ao18 t594.length co18)).setCell ⟨gb586, 2, none⟩ (.int .i64 t597)) w.heap.size (fun k_ => k_ ≠ gb585 ∧ k_ ≠ gb586 ∧ k_ ≠ gb587) (.slice Ao18 t594.length co18) t594) := ⟨by (with_reducible repeat (first | apply Kd.V_alloc | apply Kd.V_drewN | apply Kd.V_drew)); exact Kd.V_mono (Kd.V_far (p := ⟨gb586, 2, none⟩) (Kd.V_far (p := ⟨gb586, 1, none⟩) (Kd.V_far (p := ⟨gb586, 0, none⟩) (Kd.V_far (p := ⟨gb585, 2, none⟩) (Kd.V_far (p := ⟨gb585, 1, none⟩) (Kd.V_far (p := ⟨gb585, 0, none⟩) (Kd.V_mono (Kd.V_mono HO596.out (fun k_ hk => (⟨hk, hk.1⟩ : _ ∧ k_ ≠ gb585))) (fun k_ hk => (⟨hk, hk.1.2.1⟩ : _ ∧ k_ ≠ gb586))) (fun _ hk => hk.1.2) (.bool t588)) (fun _ hk => hk.1.2) (.slice Ao14 t589.length co14)) (fun _ hk => hk.1.2) (.int .i64 t592)) (fun _ hk => hk.2) (.bool t593)) (fun _ hk => hk.2) (.slice Ao18 t594.length co18)) (fun _ hk => hk.2) (.int .i64 t597)) (fun _ hk => by first | exact ⟨hk.1.1.1, ⟨hk.1.1.2.1, hk.1.1.2.2⟩⟩ | simp [hk])⟩
 have n2_ : Aside0 (((((((w12.setCell ⟨gb585, 0, none⟩ (.bool t588)).setCell ⟨gb585, 1, none⟩ (.slice Ao14 t589.length co14)).setCell ⟨gb585, 2, none⟩ (.int .i64 t592)).setCell ⟨gb586, 0, none⟩ (.bool t593)).setCell ⟨gb586, 1, none⟩ (.slice Ao18 t594.length co18)).setCell ⟨gb586, 2, none⟩ (.int .i64 t597)).heap[gb585]? = some (.cells #[.bool t588, .slice Ao14 t589.length co14, .int .i64 t592] 31 (0, 0))) := ⟨by refine kb_ ?_; refine bf_ NB585_586 ?_; refine bf_ NB585_586 ?_; refine bf_ NB585_586 ?_; refine bp_ #[.bool t588, .slice Ao14 t589.length co14, .int .i64 a0_2] 2 ?_; refine bp_ #[.bool t588, .slice A0_1 l0_1.length c0_1, .int .i64 a0_2] 1 ?_; refine bp_ #[.bool a0_0, .slice A0_1 l0_1.length c0_1, .int .i64 a0_2] 0 ?_; exact BK585.out⟩
 have n3_ : Aside0 (((((((w12.setCell ⟨gb585, 0, none⟩ (.bool t588)).setCell ⟨gb585, 1, none⟩ (.slice Ao14 t589.length co14)).setCell ⟨gb585, 2, none⟩ (.int .i64 t592)).setCell ⟨gb586, 0, none⟩ (.bool t593)).setCell ⟨gb586, 1, none⟩ (.slice Ao18 t594.length co18)).setCell ⟨gb586, 2, none⟩ (.int .i64 t597)).heap[gb586]? = some (.cells #[.bool t593, .slice Ao18 t594.length co18, .int .i64 t597] 31 (0, 0))) := ⟨by refine kb_ ?_; refine bp_ #[.bool t593, .slice Ao18 t594.length co18, .int .i64 a1_2] 2 ?_; refine bp_ #[.bool t593, .slice A1_1 l1_1.length c1_1, .int .i64 a1_2] 1 ?_; refine bp_ #[.bool a1_0, .slice A1_1 l1_1.length c1_1, .int .i64 a1_2] 0 ?_; refine bf_ NB586_585 ?_; refine bf_ NB586_585 ?_; refine bf_ NB586_585 ?_; exact BK586.out⟩
 have n4_ : Aside0 (((((((w12.setCell ⟨gb585, 0, none⟩ (.bool t588)).setCell ⟨gb585, 1, none⟩ (.slice Ao14 t589.length co14)).setCell ⟨gb585, 2, none⟩ (.int .i64 t592)).setCell ⟨gb586, 0, none⟩ (.bool t593)).setCell ⟨gb586, 1, none⟩ (.slice Ao18 t594.length co18)).setCell ⟨gb586, 2, none⟩ (.int .i64 t597)).heap[gb587]? = some (.cells #[.bool false, .slice none 0 0, .int .i64 0] 31 (0, 0))) := ⟨by refine kb_ ?_; refine bf_ NB587_586 ?_; refine bf_ NB587_586 ?_; refine bf_ NB587_586 ?_; refine bf_ NB587_585 ?_; refine bf_ NB587_585 ?_; refine bf_ NB587_585 ?_; exact BK587.out⟩
 have n5_ : Aside0 (Below w.heap.size w ((((((w12.setCell ⟨gb585, 0, none⟩ (.bool t588)).setCell ⟨gb585, 1, none⟩ (.slice Ao14 t589.length co14)).setCell ⟨gb585, 2, none⟩ (.int .i64 t592)).setCell ⟨gb586, 0, none⟩ (.bool t593)).setCell ⟨gb586, 1, none⟩ (.slice Ao18 t594.length co18)).setCell ⟨gb586, 2, none⟩ (.int .i64 t597))) := ⟨bw_ HB.out⟩
 (try clear HO591)
 (try clear HO596)
 (try clear BK585)
 (try clear BK586)
 (try clear BK587)
 (try clear HB)
 generalize ((((((w12.setCell ⟨gb585, 0, none⟩ (.bool t588)).setCell ⟨gb585, 1, none⟩ (.slice Ao14 t589.length co14)).setCell ⟨gb585, 2, none⟩ (.int .i64 t592)).setCell ⟨gb586, 0, none⟩ (.bool t593)).setCell ⟨gb586, 1, none⟩ (.slice Ao18 t594.length co18)).setCell ⟨gb586, 2, none⟩ (.int .i64 t597)) = w21 at n0_ n1_ n2_ n3_ n4_ n5_ ⊢
 have HO591 := n0_
 have HO596 := n1_
 have BK585 := n2_
 have BK586 := n3_
 have BK587 := n4_
 have HB := n5_
 clear n0_ n1_ n2_ n3_ n4_ n5_
 replace HO591 := Aside0.mk (Kd.V_drew HO591.out)
 replace HO596 := Aside0.mk (Kd.V_drew HO596.out)
 replace BK585 := Aside0.mk (blk_drew BK585.out)
 replace BK586 := Aside0.mk (blk_drew BK586.out)
 replace BK587 := Aside0.mk (blk_drew BK587.out)
 replace HB := Aside0.mk (below_drew1 HB.out)
 refine start_ (n := 13) (S := fun w' => w'.cell? ⟨gb585, 0, none⟩ = some (.bool t588) ∧ w'.cell? ⟨gb585, 1, none⟩ = some (.slice Ao14 t589.length co14) ∧ w'.cell? ⟨gb585, 2, none⟩ = some (.int .i64 t592) ∧ w'.cell? ⟨gb586, 0, none⟩ = some (.bool t593) ∧ w'.cell? ⟨gb586, 1, none⟩ = some (.slice Ao18 t594.length co18) ∧ w'.cell? ⟨gb586, 2, none⟩ = some (.int .i64 t597)) (ds := []) #[false, false, false, false, false, false, false, false, false, false, false, false, false] (by kernel_rfl) rfl rfl ⟨(blk_cell BK585.out 0).trans rfl, (blk_cell BK585.out 1).trans rfl, (blk_cell BK585.out 2).trans rfl, (blk_cell BK586.out 0).trans rfl, (blk_cell BK586.out 1).trans rfl, (blk_cell BK586.out 2).trans rfl⟩ (fun hHeld => ?_); refine with_tabW dy_Mul.tab2 dy_Mul.bits2 (fun HT_ HW_ => ?_)
 generalize w21.drew = w22 at HO591 HO596 BK585 BK586 BK587 HB hHeld ⊢
 refine pure_ (i := 0) (N := some 9) (v := ?_) (a' := ?_) #[true, false, false, false, false, false, false, false, false, false, false, false, false] rfl rfl (any_of HT_.out (by kernel_rfl)) (fun _ _ _ h => h) (Or.inl ⟨by rfl, ?_⟩) ?_ ?_
 rotate_left
 ·intro w'
  go_simp
  with_reducible rfl
 rotate_left
 ·exact pt_
 refine pure_ (i := 2) (N := some 11) (v := ?_) (a' := ?_) #[true, false, true, false, false, false, false, false, false, false, false, false, false] rfl rfl (any_of HT_.out (by kernel_rfl)) (fun _ _ _ h => h) (Or.inl ⟨by rfl, ?_⟩) ?_ ?_
 rotate_left
 ·intro w'
  go_simp
  with_reducible rfl
 rotate_left
 ·exact pt_
 refine pure_ (i := 6) (N := some 15) (v := ?_) (a' := ?_) #[true, false, true, false, false, false, true, false, false, false, false, false, false] rfl rfl (any_of HT_.out (by kernel_rfl)) (fun _ _ _ h => h) (Or.inl ⟨by rfl, ?_⟩) ?_ ?_
 rotate_left
 ·intro w'
  go_simp
  with_reducible rfl
 rotate_left
 ·exact pt_
 refine pure_ (i := 8) (N := some 17) (v := ?_) (a' := ?_) #[true, false, true, false, false, false, true, false, true, false, false, false, false] rfl rfl (any_of HT_.out (by kernel_rfl)) (fun _ _ _ h => h) (Or.inl ⟨by rfl, ?_⟩) ?_ ?_
 rotate_left
 ·intro w'
  go_simp
  with_reducible rfl
 rotate_left
 ·exact pt_
 refine take_ (i := 1) (N := some 10) (v := ?_) (a' := ?_) #[true, true, true, false, false, false, true, false, true, false, false, false, false] rfl rfl (take_ofW HT_.out HW_.out (by kernel_rfl)) (fun _ _ _ h => h) (Or.inl ⟨by rfl, ?_⟩) hHeld ?_ ?_
 rotate_left
 ·rintro w' ⟨s0, s1, s2, s3, s4, s5⟩
  go_simp
  with_reducible rfl
 rotate_left
 ·exact pt_
 refine take_ (i := 3) (N := some 12) (v := ?_) (a' := ?_) #[true, true, true, true, false, false, true, false, true, false, false, false, false] rfl rfl (take_ofW HT_.out HW_.out (by kernel_rfl)) (fun _ _ _ h => h) (Or.inl ⟨by rfl, ?_⟩) hHeld ?_ ?_
 rotate_left
 ·rintro w' ⟨s0, s1, s2, s3, s4, s5⟩
  go_simp
  with_reducible rfl
 rotate_left
 ·exact pt_
 refine take_ (i := 7) (N := some 16) (v := ?_) (a' := ?_) #[true, true, true, true, false, false, true, true, true, false, false, false, false] rfl rfl (take_ofW HT_.out HW_.out (by kernel_rfl)) (fun _ _ _ h => h) (Or.inl ⟨by rfl, ?_⟩) hHeld ?_ ?_
 rotate_left
 ·rintro w' ⟨s0, s1, s2, s3, s4, s5⟩
  go_simp
  with_reducible rfl
 rotate_left
 ·exact pt_
 refine take_ (i := 9) (N := some 18) (v := ?_) (a' := ?_) #[true, true, true, true, false, false, true, true, true, true, false, false, false] rfl rfl (take_ofW HT_.out HW_.out (by kernel_rfl)) (fun _ _ _ h => h) (Or.inl ⟨by rfl, ?_⟩) hHeld ?_ ?_
 rotate_left
 ·rintro w' ⟨s0, s1, s2, s3, s4, s5⟩
  go_simp
  with_reducible rfl
 rotate_left
 ·exact pt_
 refine pure_ (i := 10) (N := some 19) (v := ?_) (a' := ?_) #[true, true, true, true, false, false, true, true, true, true, true, false, false] rfl rfl (any_of HT_.out (by kernel_rfl)) (fun _ _ _ h => h) (Or.inl ⟨by rfl, ?_⟩) ?_ ?_
 rotate_left
 ·intro w'
  go_simp
  with_reducible rfl
 rotate_left
 ·exact pt_
 refine one_ (i := 4) (N := some 13) #[true, true, true, true, true, false, true, true, true, true, true, false, false] rfl rfl (one_of HT_.out (by kernel_rfl)) (by decide) (fun K hK => ?_)
 refine Kd.N_lit_step k29 _ 29 ?hg (N' := 13) ?hd (xs := ([(⟨t588, t589⟩ : S29), (⟨t593, t594⟩ : S29)] : List (S29))) (inner := [.bool t588, .slice Ao14 t589.length co14, .bool t593, .slice Ao18 t594.length co18]) (ok := (fun k_ => k_ ≠ gb585 ∧ k_ ≠ gb586 ∧ k_ ≠ gb587)) (okp := (fun k_ => k_ ≠ gb585 ∧ k_ ≠ gb586 ∧ k_ ≠ gb587)) ?hr ?hp (fun _ hk => hk) ((show ∀ k_, w22.heap.size ≤ k_ → (fun k_ => k_ ≠ gb585 ∧ k_ ≠ gb586 ∧ k_ ≠ gb587) k_ from fun k_ hk => ⟨Kd.freshB (g := gb585) (o := .cells #[.bool t588, .slice Ao14 t589.length co14, .int .i64 t592] 31 (0, 0)) (kb_ BK585.out) k_ hk, Kd.freshB (g := gb586) (o := .cells #[.bool t593, .slice Ao18 t594.length co18, .int .i64 t597] 31 (0, 0)) (kb_ BK586.out) k_ hk, Kd.freshB (g := gb587) (o := .cells #[.bool false, .slice none 0 0, .int .i64 0] 31 (0, 0)) (kb_ BK587.out) k_ hk⟩) _ (Nat.le_refl _)) (Below.refl _ _) (Nat.le_refl _) (by simp) ?_; (case hd => rfl); (case hg => rfl); (case hr => first | (go_simp; done) | (go_simp; rfl)); (case hp => exact (Reps.c2 (show Kd.FK k29 _ _ (⟨t588, t589⟩ : S29) [.bool t588, .slice Ao14 t589.length co14] from (k29_mkF _ _ (⟨t588, t589⟩ : S29) (Kd.V_reads' (Kd.V_mono (ok' := (fun k_ => k_ ≠ gb585 ∧ k_ ≠ gb586 ∧ k_ ≠ gb587)) (HO591.out) (fun k_ hk => ⟨hk.1, ⟨hk.2.1, hk.2.2⟩⟩))).2.1 (Kd.V_F (Kd.V_mono (ok' := (fun k_ => k_ ≠ gb585 ∧ k_ ≠ gb586 ∧ k_ ≠ gb587)) (HO591.out) (fun k_ hk => ⟨hk.1, ⟨hk.2.1, hk.2.2⟩⟩))))) (Reps.c2 (show Kd.FK k29 _ _ (⟨t593, t594⟩ : S29) [.bool t593, .slice Ao18 t594.length co18] from (k29_mkF _ _ (⟨t593, t594⟩ : S29) (Kd.V_reads' (Kd.V_mono (ok' := (fun k_ => k_ ≠ gb585 ∧ k_ ≠ gb586 ∧ k_ ≠ gb587)) (HO596.out) (fun k_ hk => ⟨hk.1, ⟨hk.2.1, hk.2.2⟩⟩))).2.1 (Kd.V_F (Kd.V_mono (ok' := (fun k_ => k_ ≠ gb585 ∧ k_ ≠ gb586 ∧ k_ ≠ gb587)) (HO596.out) (fun k_ hk => ⟨hk.1, ⟨hk.2.1, hk.2.2⟩⟩))))) (Reps.none _ _))))
 intro v599 w23 ho24 hb hg_ hnew_
 clear hg_ hnew_
 (first | rw [← Ny598.out] at ho24 | (simp only [Int.reduceToNat] at ho24; rw [← Ny598.out] at ho24))
 have n0_ := Aside0.mk (Kd.V_elder' (by (with_reducible repeat (first | apply Kd.V_alloc | apply Kd.V_drewN | apply Kd.V_drew)); exact HO591.out) (Kd.N_base ho24) hb)
 have n1_ := Aside0.mk (Kd.V_elder' (by (with_reducible repeat (first | apply Kd.V_alloc | apply Kd.V_drewN | apply Kd.V_drew)); exact HO596.out) (Kd.N_base ho24) hb)
 have n2_ := Aside0.mk (Kd.N_lower ho24 (below_size (bw_ HB.out)))
 have n3_ := kq_ BK585 hb
 have n4_ := kq_ BK586 hb
 have n5_ := kq_ BK587 hb
 have n6_ := bq_ HB hb
 clear HO591
 clear HO596
 clear BK585
 clear BK586
 clear BK587
 clear HB
 have HO591 := n0_
 have HO596 := n1_
 have HO600 := n2_
 have BK585 := n3_
 have BK586 := n4_
 have BK587 := n5_
 have HB := n6_
 clear n0_ n1_ n2_ n3_ n4_ n5_ n6_
 clear hb ho24
 obtain ⟨Ao25, co25, eo25⟩ := Kd.N_slice HO600.out
 (first | subst eo25 | (injection eo25 with f1_ f2_ f3_; have f4_ := f1_.symm; have f5_ := f3_.symm; clear f1_ f2_ f3_; subst f4_; subst f5_))
 refine hK.out _ _ ⟨(blk_cell BK585.out 0).trans rfl, (blk_cell BK585.out 1).trans rfl, (blk_cell BK585.out 2).trans rfl, (blk_cell BK586.out 0).trans rfl, (blk_cell BK586.out 1).trans rfl, (blk_cell BK586.out 2).trans rfl⟩ (fun hHeld => ?_)
 clear hK K
 refine norm_ (a' := ?_) ?_ ?_
 rotate_left
 ·show Act.put _ (some 13) _ = _
  exact pt_
 refine one_ (i := 5) (N := some 14) #[true, true, true, true, true, true, true, true, true, true, true, false, false] rfl rfl (one_of HT_.out (by kernel_rfl)) (by decide) (fun K hK => ?_)
 refine gs_ Tryd.func21 #[.slice Ao25 y598.length co25] ?_
 with_reducible refine (whole_Mul.calls k _ _ y598 t601 t602 _ ?side1 ?side2 A5.out).mono ?_
 (case side1 => exact kc_ (Kd.N_reads' HO600.out).2.2)
 (case side2 => exact (Kd.N_reads' HO600.out).2.1)
 rintro e w26 ⟨v603, rfl, ho0, hb⟩
 refine ⟨_, rfl, ?_⟩
 have n0_ := Aside0.mk (Kd.V_elder' (by (with_reducible repeat (first | apply Kd.V_alloc | apply Kd.V_drewN | apply Kd.V_drew)); exact HO591.out) (Kd.R_base ho0) hb)
 have n1_ := Aside0.mk (Kd.V_elder' (by (with_reducible repeat (first | apply Kd.V_alloc | apply Kd.V_drewN | apply Kd.V_drew)); exact HO596.out) (Kd.R_base ho0) hb)
 have n2_ := Aside0.mk (Kd.N_elder' (by (with_reducible repeat (first | apply Kd.N_alloc | apply Kd.N_drewN | apply Kd.N_drew)); exact HO600.out) (Kd.R_base ho0) hb)
 have n3_ := Aside0.mk (Kd.R_lower ho0 (below_size (bw_ HB.out)))
 have n4_ := kq_ BK585 hb
 have n5_ := kq_ BK586 hb
 have n6_ := kq_ BK587 hb
 have n7_ := bq_ HB hb
 clear HO591
 clear HO596
 clear HO600
 clear BK585
 clear BK586
 clear BK587
 clear HB
 have HO591 := n0_
 have HO596 := n1_
 have HO600 := n2_
 have HO604 := n3_
 have BK585 := n4_
 have BK586 := n5_
 have BK587 := n6_
 have HB := n7_
 clear n0_ n1_ n2_ n3_ n4_ n5_ n6_ n7_
 (try clear hb)
 (try clear hb2)
 (try clear hk)
 (try clear hi)
 (try clear ho0)
 obtain ⟨Ao27, co27, eo27⟩ := Kd.R_slice HO604.out
 (first | subst eo27 | (injection eo27 with f1_ f2_ f3_; have f4_ := f1_.symm; have f5_ := f3_.symm; clear f1_ f2_ f3_; subst f4_; subst f5_))
 refine hK.out _ _ ⟨(blk_cell BK585.out 0).trans rfl, (blk_cell BK585.out 1).trans rfl, (blk_cell BK585.out 2).trans rfl, (blk_cell BK586.out 0).trans rfl, (blk_cell BK586.out 1).trans rfl, (blk_cell BK586.out 2).trans rfl⟩ (fun hHeld => ?_)
 clear hK K
 refine norm_ (a' := ?_) ?_ ?_
 rotate_left
 ·show Act.put _ (some 14) _ = _
  exact pt_
 refine one_ (i := 11) (N := some 20) #[true, true, true, true, true, true, true, true, true, true, true, true, false] rfl rfl (one_of HT_.out (by kernel_rfl)) (by decide) (fun K hK => ?_)
 refine gs_ Tryd.func16 #[.agg #[.bool t601, .slice Ao27 t602.length co27], .int .i64 (wrap64 (t592 + t597))] ?_
 with_reducible refine (dy_Make.calls k t601 _ _ t602 (wrap64 (t592 + t597)) t605 t606 t609 _ ?side1 ?side2 A6.out ?sidet).mono ?_
 (case sidet => exact Kd.C_below HTAB.out (bw_ HB.out))
 (case side1 => exact kc_ (Kd.R_reads' HO604.out).2.2)
 (case side2 => exact (Kd.R_reads' HO604.out).2.1)
 rintro e w28 ⟨v607, rfl, ho0, hb⟩
 refine ⟨_, rfl, ?_⟩
 have n0_ := Aside0.mk (Kd.V_elder' (by (with_reducible repeat (first | apply Kd.V_alloc | apply Kd.V_drewN | apply Kd.V_drew)); exact HO591.out) (Kd.R_base ho0) hb)
 have n1_ := Aside0.mk (Kd.V_elder' (by (with_reducible repeat (first | apply Kd.V_alloc | apply Kd.V_drewN | apply Kd.V_drew)); exact HO596.out) (Kd.R_base ho0) hb)
 have n2_ := Aside0.mk (Kd.N_elder' (by (with_reducible repeat (first | apply Kd.N_alloc | apply Kd.N_drewN | apply Kd.N_drew)); exact HO600.out) (Kd.R_base ho0) hb)
 have n3_ := Aside0.mk (Kd.R_elder' (kr_ HO604.out) (Kd.R_base ho0) hb)
 have n4_ := Aside0.mk (Kd.R_lower (Kd.R_new' ho0 (Kd.R_lt (kr_ HO604.out))) (below_size (bw_ HB.out)))
 have n5_ := kq_ BK585 hb
 have n6_ := kq_ BK586 hb
 have n7_ := kq_ BK587 hb
 have n8_ := bq_ HB hb
 clear HO591
 clear HO596
 clear HO600
 clear HO604
 clear BK585
 clear BK586
 clear BK587
 clear HB
 have HO591 := n0_
 have HO596 := n1_
 have HO600 := n2_
 have HO604 := n3_
 have HO608 := n4_
 have BK585 := n5_
 have BK586 := n6_
 have BK587 := n7_
 have HB := n8_
 clear n0_ n1_ n2_ n3_ n4_ n5_ n6_ n7_ n8_
 (try clear hb)
 (try clear hb2)
 (try clear hk)
 (try clear hi)
 (try clear ho0)
 obtain ⟨Ao30, co30, eo30⟩ := Kd.R_slice HO608.out
 (first | subst eo30 | (injection eo30 with f1_ f2_ f3_; have f4_ := f1_.symm; have f5_ := f3_.symm; clear f1_ f2_ f3_; subst f4_; subst f5_))
 refine hK.out _ _ ⟨(blk_cell BK585.out 0).trans rfl, (blk_cell BK585.out 1).trans rfl, (blk_cell BK585.out 2).trans rfl, (blk_cell BK586.out 0).trans rfl, (blk_cell BK586.out 1).trans rfl, (blk_cell BK586.out 2).trans rfl⟩ (fun hHeld => ?_)
 clear hK K
 refine norm_ (a' := ?_) ?_ ?_
 rotate_left
 ·show Act.put _ (some 20) _ = _
  exact pt_
 refine one_ (i := 12) (N := none) #[true, true, true, true, true, true, true, true, true, true, true, true, true] rfl rfl (one_of HT_.out (by kernel_rfl)) (by decide) (fun K hK => ?_)
 have hs29 : w28.cell? ⟨gb587, 0, none⟩ = some (.bool false) := (blk_cell BK587.out 0).trans rfl
 have hfs29 := fz_ BK587 0
 have hns29_0 := NB585_587.out
 have hns29_1 := NB586_587.out
 have hms29_0 := NB587_585.out
 have hms29_1 := NB587_586.out
 have hs31 : w28.cell? ⟨gb587, 1, none⟩ = some (.slice none 0 0) := (blk_cell BK587.out 1).trans rfl
 have hfs31 := fz_ BK587 1
 have hns31_0 := NB585_587.out
 have hns31_1 := NB586_587.out
 have hms31_0 := NB587_585.out
 have hms31_1 := NB587_586.out
 have hs32 : w28.cell? ⟨gb587, 2, none⟩ = some (.int .i64 0) := (blk_cell BK587.out 2).trans rfl
 have hfs32 := fz_ BK587 2
 have hns32_0 := NB585_587.out
 have hns32_1 := NB586_587.out
 have hms32_0 := NB587_585.out
 have hms32_1 := NB587_586.out
 refine skip_ (w1 := ?_) (by rfl) rfl ?_ ?_
 rotate_left
 ·go_simp
  rfl
 refine hK.out _ _ ⟨((cell_far (p := ⟨gb587, _, none⟩) NB585_587.out _).trans (((cell_far (p := ⟨gb587, _, none⟩) NB585_587.out _).trans (((cell_far (p := ⟨gb587, _, none⟩) NB585_587.out _).trans (hHeld.1)))))), ((cell_far (p := ⟨gb587, _, none⟩) NB585_587.out _).trans (((cell_far (p := ⟨gb587, _, none⟩) NB585_587.out _).trans (((cell_far (p := ⟨gb587, _, none⟩) NB585_587.out _).trans (hHeld.2.1)))))), ((cell_far (p := ⟨gb587, _, none⟩) NB585_587.out _).trans (((cell_far (p := ⟨gb587, _, none⟩) NB585_587.out _).trans (((cell_far (p := ⟨gb587, _, none⟩) NB585_587.out _).trans (hHeld.2.2.1)))))), ((cell_far (p := ⟨gb587, _, none⟩) NB586_587.out _).trans (((cell_far (p := ⟨gb587, _, none⟩) NB586_587.out _).trans (((cell_far (p := ⟨gb587, _, none⟩) NB586_587.out _).trans (hHeld.2.2.2.1)))))), ((cell_far (p := ⟨gb587, _, none⟩) NB586_587.out _).trans (((cell_far (p := ⟨gb587, _, none⟩) NB586_587.out _).trans (((cell_far (p := ⟨gb587, _, none⟩) NB586_587.out _).trans (hHeld.2.2.2.2.1)))))), ((cell_far (p := ⟨gb587, _, none⟩) NB586_587.out _).trans (((cell_far (p := ⟨gb587, _, none⟩) NB586_587.out _).trans (((cell_far (p := ⟨gb587, _, none⟩) NB586_587.out _).trans (hHeld.2.2.2.2.2))))))⟩ (fun hHeld => ?_)
 clear hK K
 refine done_ (done_of HT_.out (by kernel_rfl)) ?_
 try go_wp2
 refine bodyPost_ret (results_cell_row rfl _ _ gb587 31 #[.bool t605, .slice Ao30 t606.length co30, .int .i64 t609] (0, 0) _ rfl (by refine kb_ ?_; refine bp_ #[.bool t605, .slice Ao30 t606.length co30, .int .i64 0] 2 ?_; refine bp_ #[.bool t605, .slice none 0 0, .int .i64 0] 1 ?_; refine bp_ #[.bool false, .slice none 0 0, .int .i64 0] 0 ?_; exact BK587.out) Tryd.underlying31 rfl (by kernel_rfl)) rfl ?_
 exact ⟨_, rf_, by (with_reducible repeat (first | apply Kd.R_alloc | apply Kd.R_drewN | apply Kd.R_drew)); exact Kd.R_mono (Kd.R_far (p := ⟨gb587, 2, none⟩) (Kd.R_far (p := ⟨gb587, 1, none⟩) (Kd.R_far (p := ⟨gb587, 0, none⟩) (Kd.R_types HO608.out BK587.out (by decide)) (fun _ hk => hk.2) (.bool t605)) (fun _ hk => hk.2) (.slice Ao30 t606.length co30)) (fun _ hk => hk.2) (.int .i64 t609)) (fun _ hk => trivial), bw_ HB.out⟩

/-! ### dy_Sign: function 42 -/
set_option maxHeartbeats 8000000 in
set_option maxRecDepth 100000 in
theorem dy_Sign.calls (k : Nat) (a0_0 : Bool) (A0_1 : Option Addr) (c0_1 : Nat) (l0_1 : List Int) (a0_2 : Int) (r : Int) (w : World) (hr0_1 : Kd.C (Kd.int .u32) w A0_1 l0_1.length l0_1) (hc0_1 : l0_1.length ≤ c0_1) (h : dy_Sign.f k a0_0 l0_1 a0_2 = some r) (htab_ : Kd.C (Kd.int .u8) w (some ⟨0, 0, none⟩) 32 tz32tab) :
  Calls Tryd.prog 42 #[.agg #[.bool a0_0, .slice A0_1 l0_1.length c0_1, .int .i64 a0_2]] w fun e w' => e = .returned (.int .i64 r) ∧ Below w.heap.size w w' := by
 have HTAB := Aside0.mk htab_
 clear htab_
 have hu31 := Tryd.underlying31
 have hfd31_0 := fun (z0 : Bool) (z1 : Option Addr) (z2 z3 : Nat) (z4 : Int) (w_ : World) => (show (Instr.field 31 (.agg #[.bool z0, .slice z1 z2 z3, .int .i64 z4]) 0).run Tryd.prog w_ = .ok (.agg #[.bool z0, .slice z1 z2 z3]) w_ by kernel_rfl)
 have HR0_1 := Aside0.mk hr0_1
 have HC0_1 := Aside0.mk hc0_1
 clear hr0_1 hc0_1
 have HB := Aside0.mk (Below.refl w.heap.size w)
 have H : ((dy_fair.f k a0_0 l0_1 a0_2).bind fun bt611 => ((whole_Sign.f k bt611.1 bt611.2.1).bind fun t616 => (some t616))) = some r := h
 clear h
 replace H := Option.bind_eq_some_iff.mp H
 obtain ⟨⟨t611, t612, t615⟩, A20, H⟩ := H
 (try dsimp only at H)
 have A2 := Aside0.mk A20
 clear A20
 replace H := Option.bind_eq_some_iff.mp H
 obtain ⟨t616, A30, H⟩ := H
 (try dsimp only at H)
 have A3 := Aside0.mk A30
 clear A30
 obtain rfl := Option.some.inj H
 go_enter Tryd.func42, Tryd.ntmps42
 go_wp2_with (first | ((with_reducible refine gate_dst (N := 1) rfl ?_); refine bx_ 1 #[.bool a0_0, .slice A0_1 l0_1.length c0_1, .int .i64 a0_2] 31 ?_; intro gb610 hg w4 hbox hb; have BK610 := Aside0.mk (hbox); have GW610 := ge_ hg HB; have GE610 := ge_ hg HB; replace HB := bq_ HB hb; clear hb hbox hg; obtain ⟨hcz5_0, hcz5_1, hcz5_2, hfz5_0, hfz5_1, hfz5_2⟩ := c3_ BK610) | ((with_reducible refine gate_callee (f := 19) rfl ?_); refine gl_ (some 4) Tryd.func19 #[.agg #[.bool a0_0, .slice A0_1 l0_1.length c0_1, .int .i64 a0_2]] ?_; (with_reducible refine (dy_fair.calls k a0_0 (fun k_ => k_ < w.heap.size) _ _ l0_1 a0_2 t611 t612 t615 _ ?side1 A2.out ?sidet).mono ?_); (case sidet => exact Kd.C_below HTAB.out (bw_ HB.out)); (case side1 => exact Kd.V_mk HC0_1.out (Kd.F_below (Kd.C_F (Kd.heap_int .u32) HR0_1.out) (bw_ HB.out))); rintro e w6 ⟨v613, rfl, ho0, hb⟩; refine ⟨_, rfl, ?_⟩; have n0_ := Aside0.mk (Kd.V_lower (Kd.V_mono (ok' := fun k_ => k_ ≠ gb610) ho0 (fun k_ hk_ => Or.elim hk_ (fun hs_ => fun e_ => Nat.not_le.2 hs_ (by rw [e_]; exact GW610.out)) (fun hn_ => (Kd.freshB (g := gb610) (o := .cells #[.bool a0_0, .slice A0_1 l0_1.length c0_1, .int .i64 a0_2] 31 (0, 0)) (kb_ BK610.out) k_ hn_)))) (below_size (bw_ HB.out))); have n1_ := kq_ BK610 hb; have n2_ := bq_ HB hb; clear BK610; clear HB; have HO614 := n0_; have BK610 := n1_; have HB := n2_; clear n0_ n1_ n2_; (try clear hb); (try clear hb2); (try clear hk); (try clear hi); (try clear ho0); obtain ⟨Ao7, co7, eo7⟩ := Kd.V_slice HO614.out; subst eo7) | ((with_reducible refine gate_callee (f := 33) rfl ?_); refine gl_ (some 6) Tryd.func33 #[.agg #[.bool t611, .slice Ao7 t612.length co7]] ?_; (with_reducible refine (whole_Sign.calls k t611 _ _ t612 t616 _ ?side1 ?side2 A3.out).mono ?_); (case side1 => exact kc_ (Kd.V_reads' HO614.out).2.2); (case side2 => exact (Kd.V_reads' HO614.out).2.1); rintro e w8 ⟨rfl, hb⟩; refine ⟨_, rfl, ?_⟩; have n0_ := Aside0.mk (Kd.V_below (by (with_reducible repeat (first | apply Kd.V_alloc | apply Kd.V_drewN | apply Kd.V_drew)); exact HO614.out) hb); have n1_ := kq_ BK610 hb; have n2_ := bq_ HB hb; clear HO614; clear BK610; clear HB; have HO614 := n0_; have BK610 := n1_; have HB := n2_; clear n0_ n1_ n2_; (try clear hb); (try clear hb2); (try clear hk); (try clear hi)))
 go_ret
 exact ⟨rf_, bw_ HB.out⟩

/-! ### whole_Neg: function 60 -/
set_option maxHeartbeats 8000000 in
set_option maxRecDepth 100000 in
theorem whole_Neg.calls (k : Nat) (a0_0 : Bool) (A0_1 : Option Addr) (c0_1 : Nat) (l0_1 : List Int) (r1 : Bool) (r2 : List Int) (w : World) (hr0_1 : Kd.C (Kd.int .u32) w A0_1 l0_1.length l0_1) (hc0_1 : l0_1.length ≤ c0_1) (h : whole_Neg.f k a0_0 l0_1 = some (r1, r2)) :
  Calls Tryd.prog 60 #[.agg #[.bool a0_0, .slice A0_1 l0_1.length c0_1]] w fun e w' => ∃ v1_ : Value, e = .returned (.agg #[.bool r1, v1_]) ∧ Kd.R (Kd.int .u32) 44 w' w.heap.size (fun _ => True) v1_ r2 ∧ Below w.heap.size w w' := by
 have hu29 := Tryd.underlying29
 have HR0_1 := Aside0.mk hr0_1
 have HC0_1 := Aside0.mk hc0_1
 clear hr0_1 hc0_1
 have HB := Aside0.mk (Below.refl w.heap.size w)
 have H : ((whole_Make.f k (!a0_0) l0_1).bind fun bt619 => (some (bt619.1, bt619.2))) = some (r1, r2) := h
 clear h
 replace H := Option.bind_eq_some_iff.mp H
 obtain ⟨⟨t619, t620⟩, A20, H⟩ := H
 (try dsimp only at H)
 have A2 := Aside0.mk A20
 clear A20
 simp only [Option.some.injEq, Prod.mk.injEq] at H
 obtain ⟨rfl, rfl⟩ := H
 go_enter Tryd.func60, Tryd.ntmps60
 go_wp2_with (first | ((with_reducible refine gate_dst (N := 1) rfl ?_); refine bx_ 1 #[.bool a0_0, .slice A0_1 l0_1.length c0_1] 29 ?_; intro gb617 hg w3 hbox hb; have BK617 := Aside0.mk (hbox); have GW617 := ge_ hg HB; have GE617 := ge_ hg HB; replace HB := bq_ HB hb; clear hb hbox hg) | ((with_reducible refine gate_dst (N := 2) rfl ?_); refine bx_ 2 #[.bool false, .slice none 0 0] 29 ?_; intro gb618 hg w4 hbox hb; have BK618 := Aside0.mk (hbox); have GW618 := ge_ hg HB; have GE618 := ge_ hg HB; have NB617_618 := nb_ hg BK617; have NB618_617 := nc_ hg BK617; replace BK617 := kq_ BK617 hb; replace HB := bq_ HB hb; clear hb hbox hg; have hnb5 := NB617_618.out; have hnc5 := NB618_617.out; obtain ⟨hcz6_0, hcz6_1, hfz6_0, hfz6_1⟩ := c2_ BK617) | ((with_reducible refine gate_callee (f := 17) rfl ?_); refine gl_ (some 8) Tryd.func17 #[.bool (!a0_0), .slice A0_1 l0_1.length c0_1] ?_; (with_reducible refine (whole_Make.calls k (!a0_0) _ _ l0_1 t619 t620 _ ?side1 ?side2 A2.out).mono ?_); (case side1 => exact kc_ (Kd.C_below HR0_1.out HB.out)); (case side2 => exact HC0_1.out); rintro e w7 ⟨v621, rfl, ho0, hb⟩; refine ⟨_, rfl, ?_⟩; have HO622 := Aside0.mk (Kd.R_lower ho0 (below_size (bw_ HB.out))); replace BK617 := kq_ BK617 hb; replace BK618 := kq_ BK618 hb; replace HB := bq_ HB hb; (try clear hb); (try clear hb2); (try clear hk); (try clear hi); (try clear ho0); obtain ⟨hcz8_0, hcz8_1, hfz8_0, hfz8_1⟩ := c2_ BK618; obtain ⟨Ao9, co9, eo9⟩ := Kd.R_slice HO622.out; subst eo9))
 refine bodyPost_ret (results_cell_row rfl _ _ gb618 29 #[.bool t619, .slice Ao9 t620.length co9] (0, 0) _ rfl (by refine kb_ ?_; refine bp_ #[.bool t619, .slice none 0 0] 1 ?_; refine bp_ #[.bool false, .slice none 0 0] 0 ?_; exact BK618.out) Tryd.underlying29 rfl (by kernel_rfl)) rfl ?_
 exact ⟨_, rf_, by (with_reducible repeat (first | apply Kd.R_alloc | apply Kd.R_drewN | apply Kd.R_drew)); exact Kd.R_mono (Kd.R_far (p := ⟨gb618, 1, none⟩) (Kd.R_far (p := ⟨gb618, 0, none⟩) (Kd.R_types HO622.out BK618.out (by decide)) (fun _ hk => hk.2) (.bool t619)) (fun _ hk => hk.2) (.slice Ao9 t620.length co9)) (fun _ hk => trivial), bw_ HB.out⟩

/-! ### dy_Neg: function 55 -/
set_option maxHeartbeats 8000000 in
set_option maxRecDepth 100000 in
theorem dy_Neg.calls (k : Nat) (a0_0 : Bool) (A0_1 : Option Addr) (c0_1 : Nat) (l0_1 : List Int) (a0_2 : Int) (r1 : Bool) (r2 : List Int) (r3 : Int) (w : World) (hr0_1 : Kd.C (Kd.int .u32) w A0_1 l0_1.length l0_1) (hc0_1 : l0_1.length ≤ c0_1) (h : dy_Neg.f k a0_0 l0_1 a0_2 = some (r1, r2, r3)) (htab_ : Kd.C (Kd.int .u8) w (some ⟨0, 0, none⟩) 32 tz32tab) :
  Calls Tryd.prog 55 #[.agg #[.bool a0_0, .slice A0_1 l0_1.length c0_1, .int .i64 a0_2]] w fun e w' => ∃ v1_ : Value, e = .returned (.agg #[.bool r1, v1_, .int .i64 r3]) ∧ Kd.R (Kd.int .u32) 44 w' w.heap.size (fun _ => True) v1_ r2 ∧ Below w.heap.size w w' := by
 have HTAB := Aside0.mk htab_
 clear htab_
 have hu31 := Tryd.underlying31
 have hu29 := Tryd.underlying29
 have HR0_1 := Aside0.mk hr0_1
 have HC0_1 := Aside0.mk hc0_1
 clear hr0_1 hc0_1
 have HB := Aside0.mk (Below.refl w.heap.size w)
 have H : ((whole_Neg.f k a0_0 l0_1).bind fun bt625 => ((dy_Make.f k bt625.1 bt625.2 a0_2).bind fun bt629 => (some (bt629.1, bt629.2.1, bt629.2.2)))) = some (r1, r2, r3) := h
 clear h
 replace H := Option.bind_eq_some_iff.mp H
 obtain ⟨⟨t625, t626⟩, A20, H⟩ := H
 (try dsimp only at H)
 have A2 := Aside0.mk A20
 clear A20
 replace H := Option.bind_eq_some_iff.mp H
 obtain ⟨⟨t629, t630, t633⟩, A30, H⟩ := H
 (try dsimp only at H)
 have A3 := Aside0.mk A30
 clear A30
 simp only [Option.some.injEq, Prod.mk.injEq] at H
 obtain ⟨rfl, rfl, rfl⟩ := H
 go_enter Tryd.func55, Tryd.ntmps55
 try go_wp2_with (first | ((with_reducible refine gate_dst (N := 1) rfl ?_); refine bx_ 1 #[.bool a0_0, .slice A0_1 l0_1.length c0_1, .int .i64 a0_2] 31 ?_; intro gb623 hg w4 hbox hb; have BK623 := Aside0.mk (hbox); have GW623 := ge_ hg HB; have GE623 := ge_ hg HB; replace HB := bq_ HB hb; clear hb hbox hg) | ((with_reducible refine gate_dst (N := 2) rfl ?_); refine bx_ 2 #[.bool false, .slice none 0 0, .int .i64 0] 31 ?_; intro gb624 hg w5 hbox hb; have BK624 := Aside0.mk (hbox); have GW624 := ge_ hg HB; have GE624 := ge_ hg HB; have NB623_624 := nb_ hg BK623; have NB624_623 := nc_ hg BK623; replace BK623 := kq_ BK623 hb; replace HB := bq_ HB hb; clear hb hbox hg))
 replace BK623 := Aside0.mk (blk_drew BK623.out)
 replace BK624 := Aside0.mk (blk_drew BK624.out)
 replace HB := Aside0.mk (below_drew1 HB.out)
 refine start_ (n := 7) (S := fun w' => w'.cell? ⟨gb623, 0, none⟩ = some (.bool a0_0) ∧ w'.cell? ⟨gb623, 1, none⟩ = some (.slice A0_1 l0_1.length c0_1) ∧ w'.cell? ⟨gb623, 2, none⟩ = some (.int .i64 a0_2)) (ds := []) #[false, false, false, false, false, false, false] (by kernel_rfl) rfl rfl ⟨(blk_cell BK623.out 0).trans rfl, (blk_cell BK623.out 1).trans rfl, (blk_cell BK623.out 2).trans rfl⟩ (fun hHeld => ?_)
 generalize w5.drew = w6 at BK623 BK624 HB hHeld ⊢
 refine pure_ (i := 0) (N := some 3) (v := ?_) (a' := ?_) #[true, false, false, false, false, false, false] rfl rfl (by kernel_rfl) (fun _ _ _ h => h) (Or.inl ⟨by rfl, ?_⟩) ?_ ?_
 rotate_left
 ·intro w'
  go_simp
  with_reducible rfl
 rotate_left
 ·exact pt_
 refine pure_ (i := 3) (N := some 6) (v := ?_) (a' := ?_) #[true, false, false, true, false, false, false] rfl rfl (by kernel_rfl) (fun _ _ _ h => h) (Or.inl ⟨by rfl, ?_⟩) ?_ ?_
 rotate_left
 ·intro w'
  go_simp
  with_reducible rfl
 rotate_left
 ·exact pt_
 refine take_ (i := 1) (N := some 4) (v := ?_) (a' := ?_) #[true, true, false, true, false, false, false] rfl rfl (by kernel_rfl) (fun _ _ _ h => h) (Or.inl ⟨by rfl, ?_⟩) hHeld ?_ ?_
 rotate_left
 ·rintro w' ⟨s0, s1, s2⟩
  go_simp
  with_reducible rfl
 rotate_left
 ·exact pt_
 refine take_ (i := 4) (N := some 7) (v := ?_) (a' := ?_) #[true, true, false, true, true, false, false] rfl rfl (by kernel_rfl) (fun _ _ _ h => h) (Or.inl ⟨by rfl, ?_⟩) hHeld ?_ ?_
 rotate_left
 ·rintro w' ⟨s0, s1, s2⟩
  go_simp
  with_reducible rfl
 rotate_left
 ·exact pt_
 refine one_ (i := 2) (N := some 5) #[true, true, true, true, true, false, false] rfl rfl (by kernel_rfl) (by decide) (fun K hK => ?_)
 refine gs_ Tryd.func60 #[.agg #[.bool a0_0, .slice A0_1 l0_1.length c0_1]] ?_
 with_reducible refine (whole_Neg.calls k a0_0 _ _ l0_1 t625 t626 _ ?side1 ?side2 A2.out).mono ?_
 (case side1 => exact kc_ (Kd.C_below HR0_1.out HB.out))
 (case side2 => exact HC0_1.out)
 rintro e w7 ⟨v627, rfl, ho0, hb⟩
 refine ⟨_, rfl, ?_⟩
 have HO628 := Aside0.mk (Kd.R_lower ho0 (below_size (bw_ HB.out)))
 replace BK623 := kq_ BK623 hb
 replace BK624 := kq_ BK624 hb
 replace HB := bq_ HB hb
 (try clear hb)
 (try clear hb2)
 (try clear hk)
 (try clear hi)
 (try clear ho0)
 obtain ⟨Ao8, co8, eo8⟩ := Kd.R_slice HO628.out
 (first | subst eo8 | (injection eo8 with f1_ f2_ f3_; have f4_ := f1_.symm; have f5_ := f3_.symm; clear f1_ f2_ f3_; subst f4_; subst f5_))
 refine hK.out _ _ ⟨(blk_cell BK623.out 0).trans rfl, (blk_cell BK623.out 1).trans rfl, (blk_cell BK623.out 2).trans rfl⟩ (fun hHeld => ?_)
 clear hK K
 refine norm_ (a' := ?_) ?_ ?_
 rotate_left
 ·show Act.put _ (some 5) _ = _
  exact pt_
 refine one_ (i := 5) (N := some 8) #[true, true, true, true, true, true, false] rfl rfl (by kernel_rfl) (by decide) (fun K hK => ?_)
 refine gs_ Tryd.func16 #[.agg #[.bool t625, .slice Ao8 t626.length co8], .int .i64 a0_2] ?_
 with_reducible refine (dy_Make.calls k t625 _ _ t626 a0_2 t629 t630 t633 _ ?side1 ?side2 A3.out ?sidet).mono ?_
 (case sidet => exact Kd.C_below HTAB.out (bw_ HB.out))
 (case side1 => exact kc_ (Kd.R_reads' HO628.out).2.2)
 (case side2 => exact (Kd.R_reads' HO628.out).2.1)
 rintro e w9 ⟨v631, rfl, ho0, hb⟩
 refine ⟨_, rfl, ?_⟩
 have HO632 := Aside0.mk (Kd.R_lower (Kd.R_new' ho0 (Kd.R_lt (kr_ HO628.out))) (below_size (bw_ HB.out)))
 replace HO628 := Aside0.mk (Kd.R_elder' (kr_ HO628.out) (Kd.R_base ho0) hb)
 replace BK623 := kq_ BK623 hb
 replace BK624 := kq_ BK624 hb
 replace HB := bq_ HB hb
 (try clear hb)
 (try clear hb2)
 (try clear hk)
 (try clear hi)
 (try clear ho0)
 obtain ⟨Ao11, co11, eo11⟩ := Kd.R_slice HO632.out
 (first | subst eo11 | (injection eo11 with f1_ f2_ f3_; have f4_ := f1_.symm; have f5_ := f3_.symm; clear f1_ f2_ f3_; subst f4_; subst f5_))
 refine hK.out _ _ ⟨(blk_cell BK623.out 0).trans rfl, (blk_cell BK623.out 1).trans rfl, (blk_cell BK623.out 2).trans rfl⟩ (fun hHeld => ?_)
 clear hK K
 refine norm_ (a' := ?_) ?_ ?_
 rotate_left
 ·show Act.put _ (some 8) _ = _
  exact pt_
 refine one_ (i := 6) (N := none) #[true, true, true, true, true, true, true] rfl rfl (by kernel_rfl) (by decide) (fun K hK => ?_)
 have hs10 : w9.cell? ⟨gb624, 0, none⟩ = some (.bool false) := (blk_cell BK624.out 0).trans rfl
 have hfs10 := fz_ BK624 0
 have hns10_0 := NB623_624.out
 have hms10_0 := NB624_623.out
 have hs12 : w9.cell? ⟨gb624, 1, none⟩ = some (.slice none 0 0) := (blk_cell BK624.out 1).trans rfl
 have hfs12 := fz_ BK624 1
 have hns12_0 := NB623_624.out
 have hms12_0 := NB624_623.out
 have hs13 : w9.cell? ⟨gb624, 2, none⟩ = some (.int .i64 0) := (blk_cell BK624.out 2).trans rfl
 have hfs13 := fz_ BK624 2
 have hns13_0 := NB623_624.out
 have hms13_0 := NB624_623.out
 refine skip_ (w1 := ?_) (by rfl) rfl ?_ ?_
 rotate_left
 ·go_simp
  rfl
 refine hK.out _ _ ⟨((cell_far (p := ⟨gb624, _, none⟩) NB623_624.out _).trans (((cell_far (p := ⟨gb624, _, none⟩) NB623_624.out _).trans (((cell_far (p := ⟨gb624, _, none⟩) NB623_624.out _).trans (hHeld.1)))))), ((cell_far (p := ⟨gb624, _, none⟩) NB623_624.out _).trans (((cell_far (p := ⟨gb624, _, none⟩) NB623_624.out _).trans (((cell_far (p := ⟨gb624, _, none⟩) NB623_624.out _).trans (hHeld.2.1)))))), ((cell_far (p := ⟨gb624, _, none⟩) NB623_624.out _).trans (((cell_far (p := ⟨gb624, _, none⟩) NB623_624.out _).trans (((cell_far (p := ⟨gb624, _, none⟩) NB623_624.out _).trans (hHeld.2.2))))))⟩ (fun hHeld => ?_)
 clear hK K
 refine done_ (by kernel_rfl) ?_
 try go_wp2
 refine bodyPost_ret (results_cell_row rfl _ _ gb624 31 #[.bool t629, .slice Ao11 t630.length co11, .int .i64 t633] (0, 0) _ rfl (by refine kb_ ?_; refine bp_ #[.bool t629, .slice Ao11 t630.length co11, .int .i64 0] 2 ?_; refine bp_ #[.bool t629, .slice none 0 0, .int .i64 0] 1 ?_; refine bp_ #[.bool false, .slice none 0 0, .int .i64 0] 0 ?_; exact BK624.out) Tryd.underlying31 rfl (by kernel_rfl)) rfl ?_
 exact ⟨_, rf_, by (with_reducible repeat (first | apply Kd.R_alloc | apply Kd.R_drewN | apply Kd.R_drew)); exact Kd.R_mono (Kd.R_far (p := ⟨gb624, 2, none⟩) (Kd.R_far (p := ⟨gb624, 1, none⟩) (Kd.R_far (p := ⟨gb624, 0, none⟩) (Kd.R_types HO632.out BK624.out (by decide)) (fun _ hk => hk.2) (.bool t629)) (fun _ hk => hk.2) (.slice Ao11 t630.length co11)) (fun _ hk => hk.2) (.int .i64 t633)) (fun _ hk => trivial), bw_ HB.out⟩

/-! ### dy_Sub: function 43 -/
set_option maxHeartbeats 8000000 in
set_option maxRecDepth 100000 in
theorem dy_Sub.calls (k : Nat) (a0_0 : Bool) (P0_1_ : Nat → Prop) (A0_1 : Option Addr) (c0_1 : Nat) (l0_1 : List Int) (a0_2 : Int) (a1_0 : Bool) (A1_1 : Option Addr) (c1_1 : Nat) (l1_1 : List Int) (a1_2 : Int) (r1 : Bool) (r2 : List Int) (r3 : Int) (w : World) (hs0_1 : Kd.V (Kd.int .u32) 44 w w.heap.size (fun k_ => P0_1_ k_) (.slice A0_1 l0_1.length c0_1) l0_1) (hr1_1 : Kd.C (Kd.int .u32) w A1_1 l1_1.length l1_1) (hc1_1 : l1_1.length ≤ c1_1) (h : dy_Sub.f k a0_0 l0_1 a0_2 a1_0 l1_1 a1_2 = some (r1, r2, r3)) (htab_ : Kd.C (Kd.int .u8) w (some ⟨0, 0, none⟩) 32 tz32tab) :
  Calls Tryd.prog 43 #[.agg #[.bool a0_0, .slice A0_1 l0_1.length c0_1, .int .i64 a0_2], .agg #[.bool a1_0, .slice A1_1 l1_1.length c1_1, .int .i64 a1_2]] w fun e w' => ∃ v1_ : Value, e = .returned (.agg #[.bool r1, v1_, .int .i64 r3]) ∧ Kd.R (Kd.int .u32) 44 w' w.heap.size (fun k_ => (w.heap.size ≤ k_)) v1_ r2 ∧ Below w.heap.size w w' := by
 have HTAB := Aside0.mk htab_
 clear htab_
 have hu31 := Tryd.underlying31
 have HO0_1 := Aside0.mk (show Kd.V (Kd.int .u32) 44 w w.heap.size (fun k_ => (P0_1_ k_ ∨ w.heap.size ≤ k_)) (.slice A0_1 l0_1.length c0_1) l0_1 from Kd.V_mono hs0_1 (fun k_ hk => .inl hk))
 have HR1_1 := Aside0.mk hr1_1
 have HC1_1 := Aside0.mk hc1_1
 clear hr1_1 hc1_1
 have HB := Aside0.mk (Below.refl w.heap.size w)
 have H : ((dy_Neg.f k a1_0 l1_1 a1_2).bind fun bt637 => ((dy_Add.f k (([(⟨(⟨a0_0, l0_1⟩ : S29), a0_2⟩ : S31), (⟨(⟨bt637.1, bt637.2.1⟩ : S29), bt637.2.2⟩ : S31)] : List (S31)))).bind fun bt645 => (some (bt645.1, bt645.2.1, bt645.2.2)))) = some (r1, r2, r3) := h
 clear h
 replace H := Option.bind_eq_some_iff.mp H
 obtain ⟨⟨t637, t638, t641⟩, A30, H⟩ := H
 (try dsimp only at H)
 have A3 := Aside0.mk A30
 clear A30
 obtain ⟨y642, hy642⟩ : ∃ y_ : List (S31), y_ = (([(⟨(⟨a0_0, l0_1⟩ : S29), a0_2⟩ : S31), (⟨(⟨t637, t638⟩ : S29), t641⟩ : S31)] : List (S31))) := ⟨_, rfl⟩
 replace H : ((dy_Add.f k y642).bind fun bt645 => (some (bt645.1, bt645.2.1, bt645.2.2))) = some (r1, r2, r3) := by first | (rw [hy642]; with_reducible exact H) | (have H2_ := (Option.bind_some _ _).symm.trans H; rw [hy642]; with_reducible exact H2_) | (have H2_ := (Option.bind_some _ _).symm.trans H; with_reducible exact H2_) | with_reducible exact H | (rw [hy642]; exact H) | exact H
 have Ny642 := Aside0.mk hy642
 clear hy642
 replace H := Option.bind_eq_some_iff.mp H
 obtain ⟨⟨t645, t646, t649⟩, A40, H⟩ := H
 (try dsimp only at H)
 have A4 := Aside0.mk A40
 clear A40
 simp only [Option.some.injEq, Prod.mk.injEq] at H
 obtain ⟨rfl, rfl, rfl⟩ := H
 go_enter Tryd.func43, Tryd.ntmps43
 try go_wp2_with (first | ((with_reducible refine gate_dst (N := 2) rfl ?_); refine bx_ 2 #[.bool a0_0, .slice A0_1 l0_1.length c0_1, .int .i64 a0_2] 31 ?_; intro gb634 hg w5 hbox hb; have n0_ := Aside0.mk (Kd.V_below (Kd.V_elderB (by (with_reducible repeat (first | apply Kd.V_alloc | apply Kd.V_drewN | apply Kd.V_drew)); exact HO0_1.out) gb634 (Nat.le_of_eq hg.symm)) hb); have n1_ := bq_ HB hb; have n2_ := Aside0.mk (hbox); have n3_ := ge_ hg HB; have n4_ := ge_ hg HB; clear HO0_1; clear HB; have HO0_1 := n0_; have HB := n1_; have BK634 := n2_; have GW634 := n3_; have GE634 := n4_; clear n0_ n1_ n2_ n3_ n4_; clear hb hbox hg) | ((with_reducible refine gate_dst (N := 3) rfl ?_); refine bx_ 3 #[.bool a1_0, .slice A1_1 l1_1.length c1_1, .int .i64 a1_2] 31 ?_; intro gb635 hg w6 hbox hb; have n0_ := Aside0.mk (Kd.V_below (Kd.V_elderB (by (with_reducible repeat (first | apply Kd.V_alloc | apply Kd.V_drewN | apply Kd.V_drew)); exact HO0_1.out) gb635 (Nat.le_of_eq hg.symm)) hb); have n1_ := kq_ BK634 hb; have n2_ := bq_ HB hb; have n3_ := Aside0.mk (hbox); have n4_ := ge_ hg HB; have n5_ := ge_ hg HB; have n6_ := nb_ hg BK634; have n7_ := nc_ hg BK634; clear HO0_1; clear BK634; clear HB; have HO0_1 := n0_; have BK634 := n1_; have HB := n2_; have BK635 := n3_; have GW635 := n4_; have GE635 := n5_; have NB634_635 := n6_; have NB635_634 := n7_; clear n0_ n1_ n2_ n3_ n4_ n5_ n6_ n7_; clear hb hbox hg) | ((with_reducible refine gate_dst (N := 4) rfl ?_); refine bx_ 4 #[.bool false, .slice none 0 0, .int .i64 0] 31 ?_; intro gb636 hg w7 hbox hb; have n0_ := Aside0.mk (Kd.V_below (Kd.V_elderB (by (with_reducible repeat (first | apply Kd.V_alloc | apply Kd.V_drewN | apply Kd.V_drew)); exact HO0_1.out) gb636 (Nat.le_of_eq hg.symm)) hb); have n1_ := kq_ BK634 hb; have n2_ := kq_ BK635 hb; have n3_ := bq_ HB hb; have n4_ := Aside0.mk (hbox); have n5_ := ge_ hg HB; have n6_ := ge_ hg HB; have n7_ := nb_ hg BK634; have n8_ := nc_ hg BK634; have n9_ := nb_ hg BK635; have n10_ := nc_ hg BK635; clear HO0_1; clear BK634; clear BK635; clear HB; have HO0_1 := n0_; have BK634 := n1_; have BK635 := n2_; have HB := n3_; have BK636 := n4_; have GW636 := n5_; have GE636 := n6_; have NB634_636 := n7_; have NB636_634 := n8_; have NB635_636 := n9_; have NB636_635 := n10_; clear n0_ n1_ n2_ n3_ n4_ n5_ n6_ n7_ n8_ n9_ n10_; clear hb hbox hg))
 replace HO0_1 := Aside0.mk (Kd.V_drew HO0_1.out)
 replace BK634 := Aside0.mk (blk_drew BK634.out)
 replace BK635 := Aside0.mk (blk_drew BK635.out)
 replace BK636 := Aside0.mk (blk_drew BK636.out)
 replace HB := Aside0.mk (below_drew1 HB.out)
 refine start_ (n := 6) (S := fun w' => w'.cell? ⟨gb634, 0, none⟩ = some (.bool a0_0) ∧ w'.cell? ⟨gb634, 1, none⟩ = some (.slice A0_1 l0_1.length c0_1) ∧ w'.cell? ⟨gb634, 2, none⟩ = some (.int .i64 a0_2) ∧ w'.cell? ⟨gb635, 0, none⟩ = some (.bool a1_0) ∧ w'.cell? ⟨gb635, 1, none⟩ = some (.slice A1_1 l1_1.length c1_1) ∧ w'.cell? ⟨gb635, 2, none⟩ = some (.int .i64 a1_2)) (ds := []) #[false, false, false, false, false, false] (by kernel_rfl) rfl rfl ⟨(blk_cell BK634.out 0).trans rfl, (blk_cell BK634.out 1).trans rfl, (blk_cell BK634.out 2).trans rfl, (blk_cell BK635.out 0).trans rfl, (blk_cell BK635.out 1).trans rfl, (blk_cell BK635.out 2).trans rfl⟩ (fun hHeld => ?_)
 generalize w7.drew = w8 at HO0_1 BK634 BK635 BK636 HB hHeld ⊢
 refine take_ (i := 0) (N := some 5) (v := ?_) (a' := ?_) #[true, false, false, false, false, false] rfl rfl (by kernel_rfl) (fun _ _ _ h => h) (Or.inl ⟨by rfl, ?_⟩) hHeld ?_ ?_
 rotate_left
 ·rintro w' ⟨s0, s1, s2, s3, s4, s5⟩
  go_simp
  with_reducible rfl
 rotate_left
 ·exact pt_
 refine take_ (i := 1) (N := some 6) (v := ?_) (a' := ?_) #[true, true, false, false, false, false] rfl rfl (by kernel_rfl) (fun _ _ _ h => h) (Or.inl ⟨by rfl, ?_⟩) hHeld ?_ ?_
 rotate_left
 ·rintro w' ⟨s0, s1, s2, s3, s4, s5⟩
  go_simp
  with_reducible rfl
 rotate_left
 ·exact pt_
 refine one_ (i := 2) (N := some 7) #[true, true, true, false, false, false] rfl rfl (by kernel_rfl) (by decide) (fun K hK => ?_)
 refine gs_ Tryd.func55 #[.agg #[.bool a1_0, .slice A1_1 l1_1.length c1_1, .int .i64 a1_2]] ?_
 with_reducible refine (dy_Neg.calls k a1_0 _ _ l1_1 a1_2 t637 t638 t641 _ ?side1 ?side2 A3.out ?sidet).mono ?_
 (case sidet => exact Kd.C_below HTAB.out (bw_ HB.out))
 (case side1 => exact kc_ (Kd.C_below HR1_1.out HB.out))
 (case side2 => exact HC1_1.out)
 rintro e w9 ⟨v639, rfl, ho0, hb⟩
 refine ⟨_, rfl, ?_⟩
 have n0_ := Aside0.mk (Kd.V_elder' (by (with_reducible repeat (first | apply Kd.V_alloc | apply Kd.V_drewN | apply Kd.V_drew)); exact HO0_1.out) (Kd.R_base ho0) hb)
 have n1_ := Aside0.mk (Kd.R_lower (Kd.R_newM (M := fun k_ => (w.heap.size ≤ k_)) ho0 (below_size (bw_ HB.out)) (fun k_ h_ => h_)) (below_size (bw_ HB.out)))
 have n2_ := kq_ BK634 hb
 have n3_ := kq_ BK635 hb
 have n4_ := kq_ BK636 hb
 have n5_ := bq_ HB hb
 clear HO0_1
 clear BK634
 clear BK635
 clear BK636
 clear HB
 have HO0_1 := n0_
 have HO640 := n1_
 have BK634 := n2_
 have BK635 := n3_
 have BK636 := n4_
 have HB := n5_
 clear n0_ n1_ n2_ n3_ n4_ n5_
 (try clear hb)
 (try clear hb2)
 (try clear hk)
 (try clear hi)
 (try clear ho0)
 obtain ⟨Ao10, co10, eo10⟩ := Kd.R_slice HO640.out
 (first | subst eo10 | (injection eo10 with f1_ f2_ f3_; have f4_ := f1_.symm; have f5_ := f3_.symm; clear f1_ f2_ f3_; subst f4_; subst f5_))
 refine hK.out _ _ ⟨(blk_cell BK634.out 0).trans rfl, (blk_cell BK634.out 1).trans rfl, (blk_cell BK634.out 2).trans rfl, (blk_cell BK635.out 0).trans rfl, (blk_cell BK635.out 1).trans rfl, (blk_cell BK635.out 2).trans rfl⟩ (fun hHeld => ?_)
 clear hK K
 refine norm_ (a' := ?_) ?_ ?_
 rotate_left
 ·show Act.put _ (some 7) _ = _
  exact pt_
 refine one_ (i := 3) (N := some 8) #[true, true, true, true, false, false] rfl rfl (by kernel_rfl) (by decide) (fun K hK => ?_)
 refine Kd.N_lit_step k31 _ 31 ?hg (N' := 8) ?hd (xs := ([(⟨(⟨a0_0, l0_1⟩ : S29), a0_2⟩ : S31), (⟨(⟨t637, t638⟩ : S29), t641⟩ : S31)] : List (S31))) (inner := [.bool a0_0, .slice A0_1 l0_1.length c0_1, .int .i64 a0_2, .bool t637, .slice Ao10 t638.length co10, .int .i64 t641]) (ok := (fun k_ => (P0_1_ k_ ∨ w.heap.size ≤ k_) ∧ k_ ≠ gb634 ∧ k_ ≠ gb635 ∧ k_ ≠ gb636)) (okp := (fun k_ => (P0_1_ k_ ∨ w.heap.size ≤ k_) ∧ k_ ≠ gb634 ∧ k_ ≠ gb635 ∧ k_ ≠ gb636)) ?hr ?hp (fun _ hk => hk) ((show ∀ k_, w9.heap.size ≤ k_ → (fun k_ => (P0_1_ k_ ∨ w.heap.size ≤ k_) ∧ k_ ≠ gb634 ∧ k_ ≠ gb635 ∧ k_ ≠ gb636) k_ from fun k_ hk => ⟨(.inr (Nat.le_trans (below_size (bw_ HB.out)) hk)), Kd.freshB (g := gb634) (o := .cells #[.bool a0_0, .slice A0_1 l0_1.length c0_1, .int .i64 a0_2] 31 (0, 0)) (kb_ BK634.out) k_ hk, Kd.freshB (g := gb635) (o := .cells #[.bool a1_0, .slice A1_1 l1_1.length c1_1, .int .i64 a1_2] 31 (0, 0)) (kb_ BK635.out) k_ hk, Kd.freshB (g := gb636) (o := .cells #[.bool false, .slice none 0 0, .int .i64 0] 31 (0, 0)) (kb_ BK636.out) k_ hk⟩) _ (Nat.le_refl _)) (Below.refl _ _) (Nat.le_refl _) (by simp) ?_; (case hd => rfl); (case hg => rfl); (case hr => first | (go_simp; done) | (go_simp; rfl)); (case hp => exact (Reps.c3 (show Kd.FK k31 _ _ (⟨(⟨a0_0, l0_1⟩ : S29), a0_2⟩ : S31) [.bool a0_0, .slice A0_1 l0_1.length c0_1, .int .i64 a0_2] from (k31_mkF _ _ (⟨(⟨a0_0, l0_1⟩ : S29), a0_2⟩ : S31) (Kd.V_reads' (Kd.V_mono (ok' := (fun k_ => (P0_1_ k_ ∨ w.heap.size ≤ k_) ∧ k_ ≠ gb634 ∧ k_ ≠ gb635 ∧ k_ ≠ gb636)) (HO0_1.out) (fun k_ hk => ⟨hk.1.1.1.1, ⟨hk.1.1.1.2, ⟨hk.1.1.2, hk.1.2⟩⟩⟩))).2.1 (Kd.V_F (Kd.V_mono (ok' := (fun k_ => (P0_1_ k_ ∨ w.heap.size ≤ k_) ∧ k_ ≠ gb634 ∧ k_ ≠ gb635 ∧ k_ ≠ gb636)) (HO0_1.out) (fun k_ hk => ⟨hk.1.1.1.1, ⟨hk.1.1.1.2, ⟨hk.1.1.2, hk.1.2⟩⟩⟩))))) (Reps.c3 (show Kd.FK k31 _ _ (⟨(⟨t637, t638⟩ : S29), t641⟩ : S31) [.bool t637, .slice Ao10 t638.length co10, .int .i64 t641] from (k31_mkF _ _ (⟨(⟨t637, t638⟩ : S29), t641⟩ : S31) (Kd.R_reads' (Kd.R_mono (ok' := (fun k_ => (P0_1_ k_ ∨ w.heap.size ≤ k_) ∧ k_ ≠ gb634 ∧ k_ ≠ gb635 ∧ k_ ≠ gb636)) (Kd.R_types (Kd.R_types (Kd.R_types (HO640.out) BK634.out (by decide)) BK635.out (by decide)) BK636.out (by decide)) (fun k_ hk => ⟨(.inr (hk.1.1.1.1)), ⟨hk.1.1.2, ⟨hk.1.2, hk.2⟩⟩⟩))).2.1 (Kd.R_F (Kd.R_mono (ok' := (fun k_ => (P0_1_ k_ ∨ w.heap.size ≤ k_) ∧ k_ ≠ gb634 ∧ k_ ≠ gb635 ∧ k_ ≠ gb636)) (Kd.R_types (Kd.R_types (Kd.R_types (HO640.out) BK634.out (by decide)) BK635.out (by decide)) BK636.out (by decide)) (fun k_ hk => ⟨(.inr (hk.1.1.1.1)), ⟨hk.1.1.2, ⟨hk.1.2, hk.2⟩⟩⟩))))) (Reps.none _ _))))
 intro v643 w11 ho12 hb hg_ hnew_
 clear hg_ hnew_
 (first | rw [← Ny642.out] at ho12 | (simp only [Int.reduceToNat] at ho12; rw [← Ny642.out] at ho12))
 have n0_ := Aside0.mk (Kd.V_elder' (by (with_reducible repeat (first | apply Kd.V_alloc | apply Kd.V_drewN | apply Kd.V_drew)); exact HO0_1.out) (Kd.N_base ho12) hb)
 have n1_ := Aside0.mk (Kd.N_lower ho12 (below_size (bw_ HB.out)))
 have n2_ := kq_ BK634 hb
 have n3_ := kq_ BK635 hb
 have n4_ := kq_ BK636 hb
 have n5_ := bq_ HB hb
 clear HO0_1
 clear BK634
 clear BK635
 clear BK636
 clear HB
 clear HO640
 have HO0_1 := n0_
 have HO644 := n1_
 have BK634 := n2_
 have BK635 := n3_
 have BK636 := n4_
 have HB := n5_
 clear n0_ n1_ n2_ n3_ n4_ n5_
 clear hb ho12
 obtain ⟨Ao13, co13, eo13⟩ := Kd.N_slice HO644.out
 (first | subst eo13 | (injection eo13 with f1_ f2_ f3_; have f4_ := f1_.symm; have f5_ := f3_.symm; clear f1_ f2_ f3_; subst f4_; subst f5_))
 refine hK.out _ _ ⟨(blk_cell BK634.out 0).trans rfl, (blk_cell BK634.out 1).trans rfl, (blk_cell BK634.out 2).trans rfl, (blk_cell BK635.out 0).trans rfl, (blk_cell BK635.out 1).trans rfl, (blk_cell BK635.out 2).trans rfl⟩ (fun hHeld => ?_)
 clear hK K
 refine norm_ (a' := ?_) ?_ ?_
 rotate_left
 ·show Act.put _ (some 8) _ = _
  exact pt_
 refine one_ (i := 4) (N := some 9) #[true, true, true, true, true, false] rfl rfl (by kernel_rfl) (by decide) (fun K hK => ?_)
 refine gs_ Tryd.func7 #[.slice Ao13 y642.length co13] ?_
 with_reducible refine (dy_Add.calls k _ _ y642 t645 t646 t649 _ ?side1 ?side2 A4.out ?sidet).mono ?_
 (case sidet => exact Kd.C_below HTAB.out (bw_ HB.out))
 (case side1 => exact kc_ (Kd.N_reads' HO644.out).2.2)
 (case side2 => exact (Kd.N_reads' HO644.out).2.1)
 rintro e w14 ⟨v647, rfl, ho0, hb⟩
 refine ⟨_, rfl, ?_⟩
 have n0_ := Aside0.mk (Kd.V_elder' (by (with_reducible repeat (first | apply Kd.V_alloc | apply Kd.V_drewN | apply Kd.V_drew)); exact HO0_1.out) (Kd.R_base ho0) hb)
 have n1_ := Aside0.mk (Kd.N_elder' (by (with_reducible repeat (first | apply Kd.N_alloc | apply Kd.N_drewN | apply Kd.N_drew)); exact HO644.out) (Kd.R_base ho0) hb)
 have n2_ := Aside0.mk (Kd.R_lower (Kd.R_newM (M := fun k_ => (w.heap.size ≤ k_)) ho0 (below_size (bw_ HB.out)) (fun k_ h_ => h_)) (below_size (bw_ HB.out)))
 have n3_ := kq_ BK634 hb
 have n4_ := kq_ BK635 hb
 have n5_ := kq_ BK636 hb
 have n6_ := bq_ HB hb
 clear HO0_1
 clear HO644
 clear BK634
 clear BK635
 clear BK636
 clear HB
 have HO0_1 := n0_
 have HO644 := n1_
 have HO648 := n2_
 have BK634 := n3_
 have BK635 := n4_
 have BK636 := n5_
 have HB := n6_
 clear n0_ n1_ n2_ n3_ n4_ n5_ n6_
 (try clear hb)
 (try clear hb2)
 (try clear hk)
 (try clear hi)
 (try clear ho0)
 obtain ⟨Ao16, co16, eo16⟩ := Kd.R_slice HO648.out
 (first | subst eo16 | (injection eo16 with f1_ f2_ f3_; have f4_ := f1_.symm; have f5_ := f3_.symm; clear f1_ f2_ f3_; subst f4_; subst f5_))
 refine hK.out _ _ ⟨(blk_cell BK634.out 0).trans rfl, (blk_cell BK634.out 1).trans rfl, (blk_cell BK634.out 2).trans rfl, (blk_cell BK635.out 0).trans rfl, (blk_cell BK635.out 1).trans rfl, (blk_cell BK635.out 2).trans rfl⟩ (fun hHeld => ?_)
 clear hK K
 refine norm_ (a' := ?_) ?_ ?_
 rotate_left
 ·show Act.put _ (some 9) _ = _
  exact pt_
 refine one_ (i := 5) (N := none) #[true, true, true, true, true, true] rfl rfl (by kernel_rfl) (by decide) (fun K hK => ?_)
 have hs15 : w14.cell? ⟨gb636, 0, none⟩ = some (.bool false) := (blk_cell BK636.out 0).trans rfl
 have hfs15 := fz_ BK636 0
 have hns15_0 := NB634_636.out
 have hns15_1 := NB635_636.out
 have hms15_0 := NB636_634.out
 have hms15_1 := NB636_635.out
 have hs17 : w14.cell? ⟨gb636, 1, none⟩ = some (.slice none 0 0) := (blk_cell BK636.out 1).trans rfl
 have hfs17 := fz_ BK636 1
 have hns17_0 := NB634_636.out
 have hns17_1 := NB635_636.out
 have hms17_0 := NB636_634.out
 have hms17_1 := NB636_635.out
 have hs18 : w14.cell? ⟨gb636, 2, none⟩ = some (.int .i64 0) := (blk_cell BK636.out 2).trans rfl
 have hfs18 := fz_ BK636 2
 have hns18_0 := NB634_636.out
 have hns18_1 := NB635_636.out
 have hms18_0 := NB636_634.out
 have hms18_1 := NB636_635.out
 refine skip_ (w1 := ?_) (by rfl) rfl ?_ ?_
 rotate_left
 ·go_simp
  rfl
 refine hK.out _ _ ⟨((cell_far (p := ⟨gb636, _, none⟩) NB634_636.out _).trans (((cell_far (p := ⟨gb636, _, none⟩) NB634_636.out _).trans (((cell_far (p := ⟨gb636, _, none⟩) NB634_636.out _).trans (hHeld.1)))))), ((cell_far (p := ⟨gb636, _, none⟩) NB634_636.out _).trans (((cell_far (p := ⟨gb636, _, none⟩) NB634_636.out _).trans (((cell_far (p := ⟨gb636, _, none⟩) NB634_636.out _).trans (hHeld.2.1)))))), ((cell_far (p := ⟨gb636, _, none⟩) NB634_636.out _).trans (((cell_far (p := ⟨gb636, _, none⟩) NB634_636.out _).trans (((cell_far (p := ⟨gb636, _, none⟩) NB634_636.out _).trans (hHeld.2.2.1)))))), ((cell_far (p := ⟨gb636, _, none⟩) NB635_636.out _).trans (((cell_far (p := ⟨gb636, _, none⟩) NB635_636.out _).trans (((cell_far (p := ⟨gb636, _, none⟩) NB635_636.out _).trans (hHeld.2.2.2.1)))))), ((cell_far (p := ⟨gb636, _, none⟩) NB635_636.out _).trans (((cell_far (p := ⟨gb636, _, none⟩) NB635_636.out _).trans (((cell_far (p := ⟨gb636, _, none⟩) NB635_636.out _).trans (hHeld.2.2.2.2.1)))))), ((cell_far (p := ⟨gb636, _, none⟩) NB635_636.out _).trans (((cell_far (p := ⟨gb636, _, none⟩) NB635_636.out _).trans (((cell_far (p := ⟨gb636, _, none⟩) NB635_636.out _).trans (hHeld.2.2.2.2.2))))))⟩ (fun hHeld => ?_)
 clear hK K
 refine done_ (by kernel_rfl) ?_
 try go_wp2
 refine bodyPost_ret (results_cell_row rfl _ _ gb636 31 #[.bool t645, .slice Ao16 t646.length co16, .int .i64 t649] (0, 0) _ rfl (by refine kb_ ?_; refine bp_ #[.bool t645, .slice Ao16 t646.length co16, .int .i64 0] 2 ?_; refine bp_ #[.bool t645, .slice none 0 0, .int .i64 0] 1 ?_; refine bp_ #[.bool false, .slice none 0 0, .int .i64 0] 0 ?_; exact BK636.out) Tryd.underlying31 rfl (by kernel_rfl)) rfl ?_
 exact ⟨_, rf_, by (with_reducible repeat (first | apply Kd.R_alloc | apply Kd.R_drewN | apply Kd.R_drew)); exact Kd.R_mono (Kd.R_far (p := ⟨gb636, 2, none⟩) (Kd.R_far (p := ⟨gb636, 1, none⟩) (Kd.R_far (p := ⟨gb636, 0, none⟩) (Kd.R_types HO648.out BK636.out (by decide)) (fun _ hk => hk.2) (.bool t645)) (fun _ hk => hk.2) (.slice Ao16 t646.length co16)) (fun _ hk => hk.2) (.int .i64 t649)) (fun _ hk => hk.1.1), bw_ HB.out⟩

/-! ### dy_Cmp: function 22 -/
set_option maxHeartbeats 8000000 in
set_option maxRecDepth 100000 in
theorem dy_Cmp.calls (k : Nat) (a0_0 : Bool) (A0_1 : Option Addr) (c0_1 : Nat) (l0_1 : List Int) (a0_2 : Int) (a1_0 : Bool) (A1_1 : Option Addr) (c1_1 : Nat) (l1_1 : List Int) (a1_2 : Int) (r : Int) (w : World) (hr0_1 : Kd.C (Kd.int .u32) w A0_1 l0_1.length l0_1) (hc0_1 : l0_1.length ≤ c0_1) (hr1_1 : Kd.C (Kd.int .u32) w A1_1 l1_1.length l1_1) (hc1_1 : l1_1.length ≤ c1_1) (h : dy_Cmp.f k a0_0 l0_1 a0_2 a1_0 l1_1 a1_2 = some r) (htab_ : Kd.C (Kd.int .u8) w (some ⟨0, 0, none⟩) 32 tz32tab) :
  Calls Tryd.prog 22 #[.agg #[.bool a0_0, .slice A0_1 l0_1.length c0_1, .int .i64 a0_2], .agg #[.bool a1_0, .slice A1_1 l1_1.length c1_1, .int .i64 a1_2]] w fun e w' => e = .returned (.int .i64 r) ∧ Below w.heap.size w w' := by
 have HTAB := Aside0.mk htab_
 clear htab_
 have hu31 := Tryd.underlying31
 have HR0_1 := Aside0.mk hr0_1
 have HC0_1 := Aside0.mk hc0_1
 clear hr0_1 hc0_1
 have HR1_1 := Aside0.mk hr1_1
 have HC1_1 := Aside0.mk hc1_1
 clear hr1_1 hc1_1
 have HB := Aside0.mk (Below.refl w.heap.size w)
 have H : ((dy_Sub.f k a0_0 l0_1 a0_2 a1_0 l1_1 a1_2).bind fun bt652 => ((dy_Sign.f k bt652.1 bt652.2.1 bt652.2.2).bind fun t657 => (some t657))) = some r := h
 clear h
 replace H := Option.bind_eq_some_iff.mp H
 obtain ⟨⟨t652, t653, t656⟩, A30, H⟩ := H
 (try dsimp only at H)
 have A3 := Aside0.mk A30
 clear A30
 replace H := Option.bind_eq_some_iff.mp H
 obtain ⟨t657, A40, H⟩ := H
 (try dsimp only at H)
 have A4 := Aside0.mk A40
 clear A40
 obtain rfl := Option.some.inj H
 go_enter Tryd.func22, Tryd.ntmps22
 go_wp2_with (first | ((with_reducible refine gate_dst (N := 2) rfl ?_); refine bx_ 2 #[.bool a0_0, .slice A0_1 l0_1.length c0_1, .int .i64 a0_2] 31 ?_; intro gb650 hg w5 hbox hb; have BK650 := Aside0.mk (hbox); have GW650 := ge_ hg HB; have GE650 := ge_ hg HB; replace HB := bq_ HB hb; clear hb hbox hg) | ((with_reducible refine gate_dst (N := 3) rfl ?_); refine bx_ 3 #[.bool a1_0, .slice A1_1 l1_1.length c1_1, .int .i64 a1_2] 31 ?_; intro gb651 hg w6 hbox hb; have BK651 := Aside0.mk (hbox); have GW651 := ge_ hg HB; have GE651 := ge_ hg HB; have NB650_651 := nb_ hg BK650; have NB651_650 := nc_ hg BK650; replace BK650 := kq_ BK650 hb; replace HB := bq_ HB hb; clear hb hbox hg; have hnb7 := NB650_651.out; have hnc7 := NB651_650.out; obtain ⟨hcz8_0, hcz8_1, hcz8_2, hfz8_0, hfz8_1, hfz8_2⟩ := c3_ BK650; obtain ⟨hcz9_0, hcz9_1, hcz9_2, hfz9_0, hfz9_1, hfz9_2⟩ := c3_ BK651) | ((with_reducible refine gate_callee (f := 43) rfl ?_); refine gl_ (some 7) Tryd.func43 #[.agg #[.bool a0_0, .slice A0_1 l0_1.length c0_1, .int .i64 a0_2], .agg #[.bool a1_0, .slice A1_1 l1_1.length c1_1, .int .i64 a1_2]] ?_; (with_reducible refine (dy_Sub.calls k a0_0 (fun k_ => k_ < w.heap.size) _ _ l0_1 a0_2 a1_0 _ _ l1_1 a1_2 t652 t653 t656 _ ?side1 ?side2 ?side3 A3.out ?sidet).mono ?_); (case sidet => exact Kd.C_below HTAB.out (bw_ HB.out)); (case side1 => exact Kd.V_mk HC0_1.out (Kd.F_below (Kd.C_F (Kd.heap_int .u32) HR0_1.out) (bw_ HB.out))); (case side2 => exact kc_ (Kd.C_below HR1_1.out HB.out)); (case side3 => exact HC1_1.out); rintro e w10 ⟨v654, rfl, ho0, hb⟩; refine ⟨_, rfl, ?_⟩; have HO655 := Aside0.mk (Kd.R_lower (Kd.R_mono (ok' := fun k_ => True) ho0 (fun _ hk_ => trivial)) (below_size (bw_ HB.out))); replace BK650 := kq_ BK650 hb; replace BK651 := kq_ BK651 hb; replace HB := bq_ HB hb; (try clear hb); (try clear hb2); (try clear hk); (try clear hi); (try clear ho0); obtain ⟨Ao11, co11, eo11⟩ := Kd.R_slice HO655.out; subst eo11) | ((with_reducible refine gate_callee (f := 42) rfl ?_); refine gl_ (some 8) Tryd.func42 #[.agg #[.bool t652, .slice Ao11 t653.length co11, .int .i64 t656]] ?_; (with_reducible refine (dy_Sign.calls k t652 _ _ t653 t656 t657 _ ?side1 ?side2 A4.out ?sidet).mono ?_); (case sidet => exact Kd.C_below HTAB.out (bw_ HB.out)); (case side1 => exact kc_ (Kd.R_reads' HO655.out).2.2); (case side2 => exact (Kd.R_reads' HO655.out).2.1); rintro e w12 ⟨rfl, hb⟩; refine ⟨_, rfl, ?_⟩; replace HO655 := Aside0.mk (Kd.R_below (kr_ HO655.out) hb); replace BK650 := kq_ BK650 hb; replace BK651 := kq_ BK651 hb; replace HB := bq_ HB hb; (try clear hb); (try clear hb2); (try clear hk); (try clear hi)))
 go_ret
 exact ⟨rf_, bw_ HB.out⟩

end Go.Proofs.YthlhogcnfaiphaaDoor.PA
