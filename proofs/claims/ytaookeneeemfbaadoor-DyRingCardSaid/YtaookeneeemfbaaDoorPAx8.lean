-- Laid by this work's own program; Lean checks it.
import Derived.Test.YtaookeneeemfbaaDoorPAx0
import Derived.Test.YtaookeneeemfbaaDoorPAx1
import Derived.Test.YtaookeneeemfbaaDoorPAx2
import Derived.Test.YtaookeneeemfbaaDoorPAx3
namespace Go.Proofs.YtaookeneeemfbaaDoor.PA
open Go.RowKit Go.Proofs.YtaookeneeemfbaaDoorW.PrintWords Go.Proofs.YtaookeneeemfbaaDoorW.PrintLast Go.Proofs.YtaookeneeemfbaaDoorW.PrintMore
attribute [local go_sem] max2_int min2_int max_two min_two max_three min_three max_four min_four   -- for this text's walks alone
set_option linter.unusedVariables false
set_option linter.unusedSimpArgs false

attribute [local go_sem ↓ high] isSome_set_
/-! ### dy_Sign: function 17 -/
set_option maxHeartbeats 8000000 in
set_option maxRecDepth 100000 in
theorem dy_Sign.calls (k : Nat) (a0_0 : Bool) (A0_1 : Option Addr) (c0_1 : Nat) (l0_1 : List Int) (a0_2 : Int) (r : Int) (w : World) (hr0_1 : Kd.C (Kd.int .u32) w A0_1 l0_1.length l0_1) (hc0_1 : l0_1.length ≤ c0_1) (h : dy_Sign.f k a0_0 l0_1 a0_2 = some r) (htab_ : Kd.C (Kd.int .u8) w (some ⟨0, 0, none⟩) 32 tz32tab) :
  Calls Tryd.prog 17 #[.agg #[.bool a0_0, .slice A0_1 l0_1.length c0_1, .int .i64 a0_2]] w fun e w' => e = .returned (.int .i64 r) ∧ Below w.heap.size w w' := by
 have HTAB := Aside0.mk htab_
 clear htab_
 have hu27 := Tryd.underlying27
 have hfd27_0 := fun (z0 : Bool) (z1 : Option Addr) (z2 z3 : Nat) (z4 : Int) (w_ : World) => (show (Instr.field 27 (.agg #[.bool z0, .slice z1 z2 z3, .int .i64 z4]) 0).run Tryd.prog w_ = .ok (.agg #[.bool z0, .slice z1 z2 z3]) w_ by kernel_rfl)
 have HR0_1 := Aside0.mk hr0_1
 have HC0_1 := Aside0.mk hc0_1
 clear hr0_1 hc0_1
 have HB := Aside0.mk (Below.refl w.heap.size w)
 have H : ((dy_fair.f k a0_0 l0_1 a0_2).bind fun bt588 => ((whole_Sign.f k bt588.1 bt588.2.1).bind fun t593 => (some t593))) = some r := h
 clear h
 replace H := Option.bind_eq_some_iff.mp H
 obtain ⟨⟨t588, t589, t592⟩, A20, H⟩ := H
 (try dsimp only at H)
 have A2 := Aside0.mk A20
 clear A20
 replace H := Option.bind_eq_some_iff.mp H
 obtain ⟨t593, A30, H⟩ := H
 (try dsimp only at H)
 have A3 := Aside0.mk A30
 clear A30
 obtain rfl := Option.some.inj H
 go_enter Tryd.func17, Tryd.ntmps17
 go_wp2_with (first | ((with_reducible refine gate_dst (N := 1) rfl ?_); refine bx_ 1 #[.bool a0_0, .slice A0_1 l0_1.length c0_1, .int .i64 a0_2] 27 ?_; intro gb587 hg w4 hbox hb; have BK587 := Aside0.mk (hbox); have GW587 := ge_ hg HB; have GE587 := ge_ hg HB; replace HB := bq_ HB hb; clear hb hbox hg; obtain ⟨hcz5_0, hcz5_1, hcz5_2, hfz5_0, hfz5_1, hfz5_2⟩ := c3_ BK587) | ((with_reducible refine gate_callee (f := 46) rfl ?_); refine gl_ (some 4) Tryd.func46 #[.agg #[.bool a0_0, .slice A0_1 l0_1.length c0_1, .int .i64 a0_2]] ?_; (with_reducible refine (dy_fair.calls k a0_0 (fun k_ => k_ < w.heap.size) _ _ l0_1 a0_2 t588 t589 t592 _ ?side1 A2.out ?sidet).mono ?_); (case sidet => exact Kd.C_below HTAB.out (bw_ HB.out)); (case side1 => exact Kd.V_mk HC0_1.out (Kd.F_below (Kd.C_F (Kd.heap_int .u32) HR0_1.out) (bw_ HB.out))); rintro e w6 ⟨v590, rfl, ho0, hb⟩; refine ⟨_, rfl, ?_⟩; have n0_ := Aside0.mk (Kd.V_lower (Kd.V_mono (ok' := fun k_ => k_ ≠ gb587) ho0 (fun k_ hk_ => Or.elim hk_ (fun hs_ => fun e_ => Nat.not_le.2 hs_ (by rw [e_]; exact GW587.out)) (fun hn_ => (Kd.freshB (g := gb587) (o := .cells #[.bool a0_0, .slice A0_1 l0_1.length c0_1, .int .i64 a0_2] 27 (0, 0)) (kb_ BK587.out) k_ hn_)))) (below_size (bw_ HB.out))); have n1_ := kq_ BK587 hb; have n2_ := bq_ HB hb; clear BK587; clear HB; have HO591 := n0_; have BK587 := n1_; have HB := n2_; clear n0_ n1_ n2_; (try clear hb); (try clear hb2); (try clear hk); (try clear hi); (try clear ho0); obtain ⟨Ao7, co7, eo7⟩ := Kd.V_slice HO591.out; subst eo7) | ((with_reducible refine gate_callee (f := 38) rfl ?_); refine gl_ (some 6) Tryd.func38 #[.agg #[.bool t588, .slice Ao7 t589.length co7]] ?_; (with_reducible refine (whole_Sign.calls k t588 _ _ t589 t593 _ ?side1 ?side2 A3.out).mono ?_); (case side1 => exact kc_ (Kd.V_reads' HO591.out).2.2); (case side2 => exact (Kd.V_reads' HO591.out).2.1); rintro e w8 ⟨rfl, hb⟩; refine ⟨_, rfl, ?_⟩; have n0_ := Aside0.mk (Kd.V_below (by (with_reducible repeat (first | apply Kd.V_alloc | apply Kd.V_drewN | apply Kd.V_drew)); exact HO591.out) hb); have n1_ := kq_ BK587 hb; have n2_ := bq_ HB hb; clear HO591; clear BK587; clear HB; have HO591 := n0_; have BK587 := n1_; have HB := n2_; clear n0_ n1_ n2_; (try clear hb); (try clear hb2); (try clear hk); (try clear hi)))
 go_ret
 exact ⟨rf_, bw_ HB.out⟩

end Go.Proofs.YtaookeneeemfbaaDoor.PA
