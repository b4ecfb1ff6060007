-- Laid by this work's own program; Lean checks it.
import Derived.Test.YtbejmpocgnldnaaPAx0
import Derived.Test.YtbejmpocgnldnaaPAx1
import Derived.Test.YtbejmpocgnldnaaPAx9
import Derived.Test.YtbejmpocgnldnaaPAx10
import Derived.Test.YtbejmpocgnldnaaPAx15
namespace Go.Proofs.Ytbejmpocgnldnaa.PA
open Go.RowKit Go.Proofs.YtbejmpocgnldnaaW.PrintWords Go.Proofs.YtbejmpocgnldnaaW.PrintLast Go.Proofs.YtbejmpocgnldnaaW.PrintMore
attribute [local go_sem] max2_int min2_int max_two min_two max_three min_three max_four min_four   -- for this text's walks alone
set_option linter.unusedVariables false
set_option linter.unusedSimpArgs false

attribute [local go_sem ↓ high] isSome_set_
/-! ### pelorusref02_Two: function 39 -/
theorem pelorusref02_Two.tab1 : rtab .any (opsOf Try.f39 1) = pelorusref02_Two.T1 := by kernel_rfl
theorem pelorusref02_Two.bits1 : waitsOk pelorusref02_Two.T1.2 pelorusref02_Two.B1 = true := by kernel_rfl
set_option maxHeartbeats 8000000 in
set_option maxRecDepth 100000 in
theorem pelorusref02_Two.calls (k : Nat) (a0_0 : Bool) (A0_1 : Option Addr) (c0_1 : Nat) (l0_1 : List Int) (a1_0 : Bool) (A1_1 : Option Addr) (c1_1 : Nat) (l1_1 : List Int) (r1 : Bool) (r2 : List Int) (w : World) (hr0_1 : Kd.C (Kd.int .u32) w A0_1 l0_1.length l0_1) (hc0_1 : l0_1.length ≤ c0_1) (hr1_1 : Kd.C (Kd.int .u32) w A1_1 l1_1.length l1_1) (hc1_1 : l1_1.length ≤ c1_1) (h : pelorusref02_Two.f k a0_0 l0_1 a1_0 l1_1 = some (r1, r2)) :
  Calls Try.prog 39 #[.agg #[.bool a0_0, .slice A0_1 l0_1.length c0_1], .agg #[.bool a1_0, .slice A1_1 l1_1.length c1_1]] w fun e w' => ∃ v1_ : Value, e = .returned (.agg #[.bool r1, v1_]) ∧ Kd.R (Kd.int .u32) 47 w' w.heap.size (fun _ => True) v1_ r2 ∧ Below w.heap.size w w' := by
 have hu24 := Try.underlying24
 have HR0_1 := Aside0.mk hr0_1
 have HC0_1 := Aside0.mk hc0_1
 clear hr0_1 hc0_1
 have HR1_1 := Aside0.mk hr1_1
 have HC1_1 := Aside0.mk hc1_1
 clear hr1_1 hc1_1
 have HB := Aside0.mk (Below.refl w.heap.size w)
 have H : ((pelorusref01_Mul.f k l0_1 l1_1).bind fun t785 => ((pelorusref02_Make.f k (a0_0 != a1_0) t785).bind fun bt788 => (some (bt788.1, bt788.2)))) = some (r1, r2) := h
 clear h
 replace H := Option.bind_eq_some_iff.mp H
 obtain ⟨t785, A30, H⟩ := H
 (try dsimp only at H)
 have A3 := Aside0.mk A30
 clear A30
 replace H := Option.bind_eq_some_iff.mp H
 obtain ⟨⟨t788, t789⟩, A40, H⟩ := H
 (try dsimp only at H)
 have A4 := Aside0.mk A40
 clear A40
 simp only [Option.some.injEq, Prod.mk.injEq] at H
 obtain ⟨rfl, rfl⟩ := H
 go_enter Try.func39, Try.ntmps39
 try go_wp2_with (first | ((with_reducible refine gate_dst (N := 2) rfl ?_); refine bx_ 2 #[.bool a0_0, .slice A0_1 l0_1.length c0_1] 24 ?_; intro gb782 hg w5 hbox hb; have BK782 := Aside0.mk (hbox); have GW782 := ge_ hg HB; have GE782 := ge_ hg HB; replace HB := bq_ HB hb; clear hb hbox hg) | ((with_reducible refine gate_dst (N := 3) rfl ?_); refine bx_ 3 #[.bool a1_0, .slice A1_1 l1_1.length c1_1] 24 ?_; intro gb783 hg w6 hbox hb; have BK783 := Aside0.mk (hbox); have GW783 := ge_ hg HB; have GE783 := ge_ hg HB; have NB782_783 := nb_ hg BK782; have NB783_782 := nc_ hg BK782; replace BK782 := kq_ BK782 hb; replace HB := bq_ HB hb; clear hb hbox hg) | ((with_reducible refine gate_dst (N := 4) rfl ?_); refine bx_ 4 #[.bool false, .slice none 0 0] 24 ?_; intro gb784 hg w7 hbox hb; have BK784 := Aside0.mk (hbox); have GW784 := ge_ hg HB; have GE784 := ge_ hg HB; have NB782_784 := nb_ hg BK782; have NB784_782 := nc_ hg BK782; have NB783_784 := nb_ hg BK783; have NB784_783 := nc_ hg BK783; replace BK782 := kq_ BK782 hb; replace BK783 := kq_ BK783 hb; replace HB := bq_ HB hb; clear hb hbox hg))
 replace BK782 := Aside0.mk (blk_drew BK782.out)
 replace BK783 := Aside0.mk (blk_drew BK783.out)
 replace BK784 := Aside0.mk (blk_drew BK784.out)
 replace HB := Aside0.mk (below_drew1 HB.out)
 refine start_ (n := 12) (S := fun w' => w'.cell? ⟨gb782, 0, none⟩ = some (.bool a0_0) ∧ w'.cell? ⟨gb782, 1, none⟩ = some (.slice A0_1 l0_1.length c0_1) ∧ w'.cell? ⟨gb783, 0, none⟩ = some (.bool a1_0) ∧ w'.cell? ⟨gb783, 1, none⟩ = some (.slice A1_1 l1_1.length c1_1)) (ds := []) #[false, false, false, false, false, false, false, false, false, false, false, false] (by kernel_rfl) rfl rfl ⟨(blk_cell BK782.out 0).trans rfl, (blk_cell BK782.out 1).trans rfl, (blk_cell BK783.out 0).trans rfl, (blk_cell BK783.out 1).trans rfl⟩ (fun hHeld => ?_); refine with_tabW pelorusref02_Two.tab1 pelorusref02_Two.bits1 (fun HT_ HW_ => ?_)
 generalize w7.drew = w8 at BK782 BK783 BK784 HB hHeld ⊢
 refine pure_ (i := 0) (N := some 5) (v := ?_) (a' := ?_) #[true, false, false, false, false, false, false, false, false, false, false, false] rfl rfl (any_of HT_.out (by kernel_rfl)) (fun _ _ _ h => h) (Or.inl ⟨by rfl, ?_⟩) ?_ ?_
 rotate_left
 ·intro w'
  go_simp
  with_reducible rfl
 rotate_left
 ·exact pt_
 refine pure_ (i := 2) (N := some 7) (v := ?_) (a' := ?_) #[true, false, true, false, false, false, false, false, false, false, false, false] rfl rfl (any_of HT_.out (by kernel_rfl)) (fun _ _ _ h => h) (Or.inl ⟨by rfl, ?_⟩) ?_ ?_
 rotate_left
 ·intro w'
  go_simp
  with_reducible rfl
 rotate_left
 ·exact pt_
 refine pure_ (i := 5) (N := some 10) (v := ?_) (a' := ?_) #[true, false, true, false, false, true, false, false, false, false, false, false] rfl rfl (any_of HT_.out (by kernel_rfl)) (fun _ _ _ h => h) (Or.inl ⟨by rfl, ?_⟩) ?_ ?_
 rotate_left
 ·intro w'
  go_simp
  with_reducible rfl
 rotate_left
 ·exact pt_
 refine pure_ (i := 7) (N := some 12) (v := ?_) (a' := ?_) #[true, false, true, false, false, true, false, true, false, false, false, false] rfl rfl (any_of HT_.out (by kernel_rfl)) (fun _ _ _ h => h) (Or.inl ⟨by rfl, ?_⟩) ?_ ?_
 rotate_left
 ·intro w'
  go_simp
  with_reducible rfl
 rotate_left
 ·exact pt_
 refine take_ (i := 1) (N := some 6) (v := ?_) (a' := ?_) #[true, true, true, false, false, true, false, true, false, false, false, false] rfl rfl (take_ofW HT_.out HW_.out (by kernel_rfl)) (fun _ _ _ h => h) (Or.inl ⟨by rfl, ?_⟩) hHeld ?_ ?_
 rotate_left
 ·rintro w' ⟨s0, s1, s2, s3⟩
  go_simp
  with_reducible rfl
 rotate_left
 ·exact pt_
 refine take_ (i := 3) (N := some 8) (v := ?_) (a' := ?_) #[true, true, true, true, false, true, false, true, false, false, false, false] rfl rfl (take_ofW HT_.out HW_.out (by kernel_rfl)) (fun _ _ _ h => h) (Or.inl ⟨by rfl, ?_⟩) hHeld ?_ ?_
 rotate_left
 ·rintro w' ⟨s0, s1, s2, s3⟩
  go_simp
  with_reducible rfl
 rotate_left
 ·exact pt_
 refine pure_ (i := 4) (N := some 9) (v := ?_) (a' := ?_) #[true, true, true, true, true, true, false, true, false, false, false, false] rfl rfl (any_of HT_.out (by kernel_rfl)) (fun _ _ _ h => h) (Or.inl ⟨by rfl, ?_⟩) ?_ ?_
 rotate_left
 ·intro w'
  go_simp
  with_reducible rfl
 rotate_left
 ·exact pt_
 refine take_ (i := 6) (N := some 11) (v := ?_) (a' := ?_) #[true, true, true, true, true, true, true, true, false, false, false, false] rfl rfl (take_ofW HT_.out HW_.out (by kernel_rfl)) (fun _ _ _ h => h) (Or.inl ⟨by rfl, ?_⟩) hHeld ?_ ?_
 rotate_left
 ·rintro w' ⟨s0, s1, s2, s3⟩
  go_simp
  with_reducible rfl
 rotate_left
 ·exact pt_
 refine take_ (i := 8) (N := some 13) (v := ?_) (a' := ?_) #[true, true, true, true, true, true, true, true, true, false, false, false] rfl rfl (take_ofW HT_.out HW_.out (by kernel_rfl)) (fun _ _ _ h => h) (Or.inl ⟨by rfl, ?_⟩) hHeld ?_ ?_
 rotate_left
 ·rintro w' ⟨s0, s1, s2, s3⟩
  go_simp
  with_reducible rfl
 rotate_left
 ·exact pt_
 refine one_ (i := 9) (N := some 14) #[true, true, true, true, true, true, true, true, true, true, false, false] rfl rfl (one_of HT_.out (by kernel_rfl)) (by decide) (fun K hK => ?_)
 refine gs_ Try.func60 #[.slice A0_1 l0_1.length c0_1, .slice A1_1 l1_1.length c1_1] ?_
 with_reducible refine (pelorusref01_Mul.calls k _ _ l0_1 _ _ l1_1 t785 _ ?side1 ?side2 ?side3 ?side4 A3.out).mono ?_
 (case side1 => exact kc_ (Kd.C_below HR0_1.out HB.out))
 (case side2 => exact HC0_1.out)
 (case side3 => exact kc_ (Kd.C_below HR1_1.out HB.out))
 (case side4 => exact HC1_1.out)
 rintro e w9 ⟨v786, rfl, ho0, hb⟩
 refine ⟨_, rfl, ?_⟩
 have HO787 := Aside0.mk (Kd.R_lower ho0 (below_size (bw_ HB.out)))
 replace BK782 := kq_ BK782 hb
 replace BK783 := kq_ BK783 hb
 replace BK784 := kq_ BK784 hb
 replace HB := bq_ HB hb
 (try clear hb)
 (try clear hb2)
 (try clear hk)
 (try clear hi)
 (try clear ho0)
 obtain ⟨Ao10, co10, eo10⟩ := Kd.R_slice HO787.out
 (first | subst eo10 | (injection eo10 with f1_ f2_ f3_; have f4_ := f1_.symm; have f5_ := f3_.symm; clear f1_ f2_ f3_; subst f4_; subst f5_))
 refine hK.out _ _ ⟨(blk_cell BK782.out 0).trans rfl, (blk_cell BK782.out 1).trans rfl, (blk_cell BK783.out 0).trans rfl, (blk_cell BK783.out 1).trans rfl⟩ (fun hHeld => ?_)
 clear hK K
 refine norm_ (a' := ?_) ?_ ?_
 rotate_left
 ·show Act.put _ (some 14) _ = _
  exact pt_
 refine one_ (i := 10) (N := some 15) #[true, true, true, true, true, true, true, true, true, true, true, false] rfl rfl (one_of HT_.out (by kernel_rfl)) (by decide) (fun K hK => ?_)
 refine gs_ Try.func20 #[.bool (a0_0 != a1_0), .slice Ao10 t785.length co10] ?_
 with_reducible refine (pelorusref02_Make.calls k (a0_0 != a1_0) _ _ t785 t788 t789 _ ?side1 ?side2 A4.out).mono ?_
 (case side1 => exact kc_ (Kd.R_reads' HO787.out).2.2)
 (case side2 => exact (Kd.R_reads' HO787.out).2.1)
 rintro e w11 ⟨v790, rfl, ho0, hb⟩
 refine ⟨_, rfl, ?_⟩
 have HO791 := Aside0.mk (Kd.R_lower (Kd.R_new' ho0 (Kd.R_lt (kr_ HO787.out))) (below_size (bw_ HB.out)))
 replace HO787 := Aside0.mk (Kd.R_elder' (kr_ HO787.out) (Kd.R_base ho0) hb)
 replace BK782 := kq_ BK782 hb
 replace BK783 := kq_ BK783 hb
 replace BK784 := kq_ BK784 hb
 replace HB := bq_ HB hb
 (try clear hb)
 (try clear hb2)
 (try clear hk)
 (try clear hi)
 (try clear ho0)
 obtain ⟨Ao13, co13, eo13⟩ := Kd.R_slice HO791.out
 (first | subst eo13 | (injection eo13 with f1_ f2_ f3_; have f4_ := f1_.symm; have f5_ := f3_.symm; clear f1_ f2_ f3_; subst f4_; subst f5_))
 refine hK.out _ _ ⟨(blk_cell BK782.out 0).trans rfl, (blk_cell BK782.out 1).trans rfl, (blk_cell BK783.out 0).trans rfl, (blk_cell BK783.out 1).trans rfl⟩ (fun hHeld => ?_)
 clear hK K
 refine norm_ (a' := ?_) ?_ ?_
 rotate_left
 ·show Act.put _ (some 15) _ = _
  exact pt_
 refine one_ (i := 11) (N := none) #[true, true, true, true, true, true, true, true, true, true, true, true] rfl rfl (one_of HT_.out (by kernel_rfl)) (by decide) (fun K hK => ?_)
 have hs12 : w11.cell? ⟨gb784, 0, none⟩ = some (.bool false) := (blk_cell BK784.out 0).trans rfl
 have hfs12 := fz_ BK784 0
 have hns12_0 := NB782_784.out
 have hns12_1 := NB783_784.out
 have hms12_0 := NB784_782.out
 have hms12_1 := NB784_783.out
 have hs14 : w11.cell? ⟨gb784, 1, none⟩ = some (.slice none 0 0) := (blk_cell BK784.out 1).trans rfl
 have hfs14 := fz_ BK784 1
 have hns14_0 := NB782_784.out
 have hns14_1 := NB783_784.out
 have hms14_0 := NB784_782.out
 have hms14_1 := NB784_783.out
 refine skip_ (w1 := ?_) (by rfl) rfl ?_ ?_
 rotate_left
 ·go_simp
  rfl
 refine hK.out _ _ ⟨((cell_far (p := ⟨gb784, _, none⟩) NB782_784.out _).trans (((cell_far (p := ⟨gb784, _, none⟩) NB782_784.out _).trans (hHeld.1)))), ((cell_far (p := ⟨gb784, _, none⟩) NB782_784.out _).trans (((cell_far (p := ⟨gb784, _, none⟩) NB782_784.out _).trans (hHeld.2.1)))), ((cell_far (p := ⟨gb784, _, none⟩) NB783_784.out _).trans (((cell_far (p := ⟨gb784, _, none⟩) NB783_784.out _).trans (hHeld.2.2.1)))), ((cell_far (p := ⟨gb784, _, none⟩) NB783_784.out _).trans (((cell_far (p := ⟨gb784, _, none⟩) NB783_784.out _).trans (hHeld.2.2.2))))⟩ (fun hHeld => ?_)
 clear hK K
 refine done_ (done_of HT_.out (by kernel_rfl)) ?_
 try go_wp2
 refine bodyPost_ret (results_cell_row rfl _ _ gb784 24 #[.bool t788, .slice Ao13 t789.length co13] (0, 0) _ rfl (by refine kb_ ?_; refine bp_ #[.bool t788, .slice none 0 0] 1 ?_; refine bp_ #[.bool false, .slice none 0 0] 0 ?_; exact BK784.out) Try.underlying24 rfl (by kernel_rfl)) rfl ?_
 exact ⟨_, rf_, by (with_reducible repeat (first | apply Kd.R_alloc | apply Kd.R_drewN | apply Kd.R_drew)); exact Kd.R_mono (Kd.R_far (p := ⟨gb784, 1, none⟩) (Kd.R_far (p := ⟨gb784, 0, none⟩) (Kd.R_types HO791.out BK784.out (by decide)) (fun _ hk => hk.2) (.bool t788)) (fun _ hk => hk.2) (.slice Ao13 t789.length co13)) (fun _ hk => trivial), bw_ HB.out⟩

/-! ### pelorusref02_Mul: function 15 -/
set_option maxHeartbeats 8000000 in
set_option maxRecDepth 100000 in
theorem pelorusref02_Mul.calls (k : Nat) (A0 : Option Addr) (c0 : Nat) (l0 : List (S24)) (r1 : Bool) (r2 : List Int) (w : World) (hr0 : Kd.C k24 w A0 l0.length l0) (hc0 : l0.length ≤ c0) (h : pelorusref02_Mul.f k l0 = some (r1, r2)) :
  Calls Try.prog 15 #[.slice A0 l0.length c0] w fun e w' => ∃ v1_ : Value, e = .returned (.agg #[.bool r1, v1_]) ∧ Kd.R (Kd.int .u32) 47 w' w.heap.size (fun _ => True) v1_ r2 ∧ Below w.heap.size w w' := by
 have hu24 := Try.underlying24
 have HR0 := Aside0.mk hr0
 have HC0 := Aside0.mk hc0
 clear hr0 hc0
 have HB := Aside0.mk (Below.refl w.heap.size w)
 have H : ((pelorusref02_From.f k 1).bind fun bt793 => (pelorusref02_Mul.l0 k l0 0 bt793.1 bt793.2)) = some (r1, r2) := h
 clear h
 replace H := Option.bind_eq_some_iff.mp H
 obtain ⟨⟨t793, t794⟩, A20, H⟩ := H
 (try dsimp only at H)
 have A2 := Aside0.mk A20
 clear A20
 have H' := Aside0.mk H
 clear H
 go_enter Try.func15, Try.ntmps15
 go_wp2_with (first | ((with_reducible refine gate_dst (N := 2) rfl ?_); refine bx_ 2 #[.bool false, .slice none 0 0] 24 ?_; intro gb792 hg w3 hbox hb; have BK792 := Aside0.mk (hbox); have GW792 := ge_ hg HB; have GE792 := ge_ hg HB; replace HB := bq_ HB hb; clear hb hbox hg) | ((with_reducible refine gate_callee (f := 21) rfl ?_); refine gl_ (some 5) Try.func21 #[.int .i64 1] ?_; (with_reducible refine (pelorusref02_From.calls k 1 t793 t794 _ A2.out).mono ?_); rintro e w4 ⟨v795, rfl, ho0, hb⟩; refine ⟨_, rfl, ?_⟩; have HO796 := Aside0.mk (Kd.R_lower ho0 (below_size (bw_ HB.out))); replace BK792 := kq_ BK792 hb; replace HB := bq_ HB hb; (try clear hb); (try clear hb2); (try clear hk); (try clear hi); (try clear ho0)) | ((with_reducible refine gate_dst (N := 3) rfl ?_); refine bx_ 3 #[.bool false, .slice none 0 0] 24 ?_; intro gb797 hg w5 hbox hb; have BK797 := Aside0.mk (hbox); have GW797 := ge_ hg HB; have GE797 := ge_ hg HB; have NB792_797 := nb_ hg BK792; have NB797_792 := nc_ hg BK792; replace HO796 := Aside0.mk (Kd.R_below (kr_ HO796.out) hb); replace BK792 := kq_ BK792 hb; replace HB := bq_ HB hb; clear hb hbox hg; have hnb6 := NB797_792.out; have hnc6 := NB792_797.out; obtain ⟨hcz7_0, hcz7_1, hfz7_0, hfz7_1⟩ := c2_ BK797; obtain ⟨Ao8, co8, eo8⟩ := Kd.R_slice HO796.out; subst eo8))
 go_loopg [4] k (fun kq v4 w' => ∃ (x4_1 : Int) (x798000_1 : Bool) (x798001_1 : List Int) (u798001 : Value), v4 = .int .i64 x4_1 ∧ Aside0 (pelorusref02_Mul.l0 kq l0 x4_1 x798000_1 x798001_1 = some (r1, r2)) ∧ Aside0 (kq ≤ k) ∧ Aside0 (Kd.R (Kd.int .u32) 47 w' w.heap.size (fun _ => True) u798001 x798001_1) ∧ Aside0 (w'.heap[gb792]? = some (.cells #[.bool false, (.slice none 0 0)] 24 (0, 0))) ∧ Aside0 (w'.heap[gb797]? = some (.cells #[.bool x798000_1, u798001] 24 (0, 0))) ∧ Aside0 (Below w.heap.size w w'))
 case atStart => exact ⟨(0), (t793), (t794), (.slice Ao8 t794.length co8), (by first | rfl | (simp; done) | (simp [*]; done)), H', ⟨Nat.le_refl _⟩, ⟨by (with_reducible repeat (first | apply Kd.R_alloc | apply Kd.R_drewN | apply Kd.R_drew)); exact Kd.R_mono (Kd.R_far (p := ⟨gb797, 1, none⟩) (Kd.R_far (p := ⟨gb797, 0, none⟩) (Kd.R_types HO796.out BK797.out (by decide)) (fun _ hk => hk.2) (.bool t793)) (fun _ hk => hk.2) (.slice Ao8 t794.length co8)) (fun _ hk => trivial)⟩, ⟨by refine kb_ ?_; refine bf_ NB792_797 ?_; refine bf_ NB792_797 ?_; exact BK792.out⟩, ⟨by refine kb_ ?_; refine bp_ #[.bool t793, .slice none 0 0] 1 ?_; refine bp_ #[.bool false, .slice none 0 0] 0 ?_; exact BK797.out⟩, ⟨bw_ HB.out⟩⟩
 case round =>
  clear H'
  try clear c1
  try clear c2
  try clear p2
  try clear c6
  try clear hcz7_0 hcz7_1
  try clear hfz7_0 hfz7_1
  obtain ⟨x4_1, x798000_1, x798001_1, u798001, rfl, HA, HK1, HO_798001, BK792, BK797, HB⟩ := hrel
  cases gk with
  | zero => exact absurd HA.out (by simp [pelorusref02_Mul.l0])
  | succ k1 =>
   have H := HA.out
   clear HA
   simp only [pelorusref02_Mul.l0] at H
   by_cases c9 : x4_1 < (l0.length : Int)
   ·rw [if_pos c9] at H
    have c9b0 : decide (x4_1 < (l0.length : Int)) = true := decide_eq_true c9
    clear c9
    by_cases c10 : 0 ≤ x4_1
    ·rw [if_pos c10] at H
     have c10b0 : decide (0 ≤ x4_1) = true := decide_eq_true c10
     clear c10
     replace H := Option.bind_eq_some_iff.mp H
     obtain ⟨⟨t799, t800⟩, A110, H⟩ := H
     (try dsimp only at H)
     have A11 := Aside0.mk A110
     clear A110
     have H' := Aside0.mk H
     clear H
     try go_wp2
     replace HO_798001 := Aside0.mk (Kd.R_drew HO_798001.out)
     replace BK792 := Aside0.mk (blk_drew BK792.out)
     replace BK797 := Aside0.mk (blk_drew BK797.out)
     replace HB := Aside0.mk (below_drew1 HB.out)
     have p798 : 0 ≤ (x4_1 : Int) := of_decide_eq_true (by first | (with_reducible assumption) | assumption)
     have q798 : x4_1 < (l0.length : Int) := of_decide_eq_true (by first | (with_reducible assumption) | assumption)
     obtain ⟨ad798, A798_1, c798_1, e798, hx798_0, hx798_1, hl798_1, hi798_1⟩ := at_T24 HR0.out x4_1 p798 q798
     have hw798_1 := hx798_1
     have hw798_0 := hx798_0
     cases e798
     replace hx798_0 := (HB.out.cell (World.block_lt_of_cell? w _ hx798_0)).trans hx798_0
     replace hx798_1 := (HB.out.cell (World.block_lt_of_cell? w _ hx798_1)).trans hx798_1
     have HR798_1 := Aside0.mk hi798_1
     have HC798_1 := Aside0.mk hl798_1
     clear hi798_1 hl798_1
     replace p798 := eq_true p798
     replace q798 := eq_true q798
     obtain ⟨Ao13, co13, eo13⟩ := Kd.R_slice HO_798001.out
     (first | subst eo13 | (injection eo13 with f1_ f2_ f3_; have f4_ := f1_.symm; have f5_ := f3_.symm; clear f1_ f2_ f3_; subst f4_; subst f5_))
     refine start_ (n := 7) (S := fun w' => w'.cell? ⟨gb797, 0, none⟩ = some (.bool x798000_1) ∧ w'.cell? ⟨gb797, 1, none⟩ = some (.slice Ao13 x798001_1.length co13) ∧ w'.cell? (ad798.add ((x4_1).toNat * 2)) = some (.bool ((rd_T24 l0 x4_1).f0)) ∧ w'.cell? ⟨(ad798.add ((x4_1).toNat * 2)).block, (ad798.add ((x4_1).toNat * 2)).off + 1, none⟩ = some (.slice A798_1 ((rd_T24 l0 x4_1).f1).length c798_1)) (ds := [6]) #[false, false, false, false, false, false, false] (by kernel_rfl) rfl rfl ⟨(blk_cell BK797.out 0).trans rfl, (blk_cell BK797.out 1).trans rfl, ((HB.out.cell (World.block_lt_of_cell? w _ hw798_0)).trans hw798_0), ((HB.out.cell (World.block_lt_of_cell? w _ hw798_1)).trans hw798_1)⟩ (fun hHeld => ?_)
     generalize wr.drew = w12 at HO_798001 BK792 BK797 HB HR798_1 hx798_0 hx798_1 hHeld ⊢
     refine pure_ (i := 1) (N := some 13) (v := ?_) (a' := ?_) #[false, true, false, false, false, false, false] rfl rfl (by kernel_rfl) (fun _ _ _ h => h) (Or.inl ⟨by rfl, ?_⟩) ?_ ?_
     rotate_left
     ·intro w'
      go_simp
      with_reducible rfl
     rotate_left
     ·exact pt_
     refine pure_ (i := 2) (N := some 14) (v := ?_) (a' := ?_) #[false, true, true, false, false, false, false] rfl rfl (by kernel_rfl) (fun _ _ _ h => h) (Or.inl ⟨by rfl, ?_⟩) ?_ ?_
     rotate_left
     ·intro w'
      go_simp
      with_reducible rfl
     rotate_left
     ·exact pt_
     refine pure_ (i := 3) (N := some 15) (v := ?_) (a' := ?_) #[false, true, true, true, false, false, false] rfl rfl (by kernel_rfl) (fun _ _ _ h => h) (Or.inl ⟨by rfl, ?_⟩) ?_ ?_
     rotate_left
     ·intro w'
      go_simp
      with_reducible rfl
     rotate_left
     ·exact pt_
     refine take_ (i := 0) (N := some 12) (v := ?_) (a' := ?_) #[true, true, true, true, false, false, false] rfl rfl (by kernel_rfl) (fun _ _ _ h => h) (Or.inl ⟨by rfl, ?_⟩) hHeld ?_ ?_
     rotate_left
     ·rintro w' ⟨s0, s1, s2, s3⟩
      go_simp
      with_reducible rfl
     rotate_left
     ·exact pt_
     refine take_ (i := 4) (N := some 16) (v := ?_) (a' := ?_) #[true, true, true, true, true, false, false] rfl rfl (by kernel_rfl) (fun _ _ _ h => h) (Or.inl ⟨by rfl, ?_⟩) hHeld ?_ ?_
     rotate_left
     ·rintro w' ⟨s0, s1, s2, s3⟩
      go_simp
      with_reducible rfl
     rotate_left
     ·exact pt_
     refine one_ (i := 5) (N := some 17) #[true, true, true, true, true, true, false] rfl rfl (by kernel_rfl) (by decide) (fun K hK => ?_)
     refine gs_ Try.func39 #[.agg #[.bool x798000_1, .slice Ao13 x798001_1.length co13], .agg #[.bool ((rd_T24 l0 x4_1).f0), .slice A798_1 ((rd_T24 l0 x4_1).f1).length c798_1]] ?_
     with_reducible refine (pelorusref02_Two.calls k1 x798000_1 _ _ x798001_1 ((rd_T24 l0 x4_1).f0) _ _ ((rd_T24 l0 x4_1).f1) t799 t800 _ ?side1 ?side2 ?side3 ?side4 A11.out).mono ?_
     (case side1 => exact kc_ (Kd.R_reads' HO_798001.out).2.2)
     (case side2 => exact (Kd.R_reads' HO_798001.out).2.1)
     (case side3 => exact kc_ (Kd.C_below HR798_1.out HB.out))
     (case side4 => exact HC798_1.out)
     rintro e w14 ⟨v801, rfl, ho0, hb⟩
     refine ⟨_, rfl, ?_⟩
     have HO802 := Aside0.mk (Kd.R_lower (Kd.R_new' ho0 (Kd.R_lt (kr_ HO_798001.out))) (below_size (bw_ HB.out)))
     replace HO_798001 := Aside0.mk (Kd.R_elder' (kr_ HO_798001.out) (Kd.R_base ho0) hb)
     replace BK792 := kq_ BK792 hb
     replace BK797 := kq_ BK797 hb
     replace HB := bq_ HB hb
     (try clear hb)
     (try clear hb2)
     (try clear hk)
     (try clear hi)
     (try clear ho0)
     obtain ⟨Ao16, co16, eo16⟩ := Kd.R_slice HO802.out
     (first | subst eo16 | (injection eo16 with f1_ f2_ f3_; have f4_ := f1_.symm; have f5_ := f3_.symm; clear f1_ f2_ f3_; subst f4_; subst f5_))
     refine hK.out _ _ ⟨(blk_cell BK797.out 0).trans rfl, (blk_cell BK797.out 1).trans rfl, ((HB.out.cell (World.block_lt_of_cell? w _ hw798_0)).trans hw798_0), ((HB.out.cell (World.block_lt_of_cell? w _ hw798_1)).trans hw798_1)⟩ (fun hHeld => ?_)
     clear hK K
     refine norm_ (a' := ?_) ?_ ?_
     rotate_left
     ·show Act.put _ (some 17) _ = _
      exact pt_
     refine last_ (i := 6) (N := none) #[true, true, true, true, true, true, true] rfl rfl (by kernel_rfl) (by decide) (fun K hK => ?_)
     have hs15 : w14.cell? ⟨gb797, 0, none⟩ = some (.bool x798000_1) := (blk_cell BK797.out 0).trans rfl
     have hfs15 := fz_ BK797 0
     have hns15_0 := NB792_797.out
     have hms15_0 := NB797_792.out
     have hs17 : w14.cell? ⟨gb797, 1, none⟩ = some (.slice Ao13 x798001_1.length co13) := (blk_cell BK797.out 1).trans rfl
     have hfs17 := fz_ BK797 1
     have hns17_0 := NB792_797.out
     have hms17_0 := NB797_792.out
     refine skip_ (w1 := ?_) (by rfl) rfl ?_ ?_
     rotate_left
     ·go_simp
      rfl
     refine hK.out _ _ ?_
     clear hK K
     refine done_ (by kernel_rfl) ?_
     try go_wp2
     go_roundg k1
     case measure => have := HK1.out; omega
     case rel => exact ⟨(wrap64 (x4_1 + 1)), (t799), (t800), (.slice Ao16 t800.length co16), (by first | rfl | (simp; done) | (simp [*]; done)), H', ⟨by have := HK1.out; omega⟩, ⟨by (with_reducible repeat (first | apply Kd.R_alloc | apply Kd.R_drewN | apply Kd.R_drew)); exact Kd.R_mono (Kd.R_far (p := ⟨gb797, 1, none⟩) (Kd.R_far (p := ⟨gb797, 0, none⟩) (Kd.R_types HO802.out BK797.out (by decide)) (fun _ hk => hk.2) (.bool t799)) (fun _ hk => hk.2) (.slice Ao16 t800.length co16)) (fun _ hk => trivial)⟩, ⟨by refine kb_ ?_; refine bf_ NB792_797 ?_; refine bf_ NB792_797 ?_; exact BK792.out⟩, ⟨by refine kb_ ?_; refine bp_ #[.bool t799, .slice Ao13 x798001_1.length co13] 1 ?_; refine bp_ #[.bool x798000_1, .slice Ao13 x798001_1.length co13] 0 ?_; exact BK797.out⟩, ⟨bw_ HB.out⟩⟩
    ·rw [if_neg c10] at H
     exact absurd H (by simp)
   ·rw [if_neg c9] at H
    have c9b0 : decide (x4_1 < (l0.length : Int)) = false := decide_eq_false c9
    clear c9
    simp only [Option.some.injEq, Prod.mk.injEq] at H
    obtain ⟨rfl, rfl⟩ := H
    have hnb18 := NB797_792.out
    have hnc18 := NB792_797.out
    obtain ⟨hcz19_0, hcz19_1, hfz19_0, hfz19_1⟩ := c2_ BK797
    obtain ⟨hcz20_0, hcz20_1, hfz20_0, hfz20_1⟩ := c2_ BK792
    obtain ⟨Ao21, co21, eo21⟩ := Kd.R_slice HO_798001.out
    subst eo21
    go_wp2
    refine bodyPost_ret (results_cell_row rfl _ _ gb792 24 #[.bool x798000_1, .slice Ao21 x798001_1.length co21] (0, 0) _ rfl (by refine kb_ ?_; refine bp_ #[.bool x798000_1, .slice none 0 0] 1 ?_; refine bp_ #[.bool false, .slice none 0 0] 0 ?_; exact BK792.out) Try.underlying24 rfl (by kernel_rfl)) rfl ?_
    exact ⟨_, rf_, by (with_reducible repeat (first | apply Kd.R_alloc | apply Kd.R_drewN | apply Kd.R_drew)); exact Kd.R_mono (Kd.R_far (p := ⟨gb792, 1, none⟩) (Kd.R_far (p := ⟨gb792, 0, none⟩) (Kd.R_types HO_798001.out BK792.out (by decide)) (fun _ hk => hk.2) (.bool x798000_1)) (fun _ hk => hk.2) (.slice Ao21 x798001_1.length co21)) (fun _ hk => trivial), bw_ HB.out⟩

end Go.Proofs.Ytbejmpocgnldnaa.PA
