-- Laid by this work's own program; Lean checks it.
import Derived.Test.YtaookeneeemfbaaDoorPAx0
import Derived.Test.YtaookeneeemfbaaDoorPAx1
import Derived.Test.YtaookeneeemfbaaDoorPAx3
import Derived.Test.YtaookeneeemfbaaDoorPAx8
import Derived.Test.YtaookeneeemfbaaDoorPAx10
import Derived.Test.YtaookeneeemfbaaDoorPAx12
import Derived.Test.YtaookeneeemfbaaDoorPAx13
import Derived.Test.YtaookeneeemfbaaDoorPAx15
import Derived.Test.YtaookeneeemfbaaDoorPAx21
namespace Go.Proofs.YtaookeneeemfbaaDoor.PA
open Go.RowKit Go.Proofs.YtaookeneeemfbaaDoorW.PrintWords Go.Proofs.YtaookeneeemfbaaDoorW.PrintLast Go.Proofs.YtaookeneeemfbaaDoorW.PrintMore
attribute [local go_sem] max2_int min2_int max_two min_two max_three min_three max_four min_four   -- for this text's walks alone
set_option linter.unusedVariables false
set_option linter.unusedSimpArgs false

attribute [local go_sem ↓ high] isSome_set_
/-! ### peloruslaw03_DyMakes: function 3 -/
theorem peloruslaw03_DyMakes.tab7 : rtab .any (opsOf Tryd.f3 7) = peloruslaw03_DyMakes.T7 := by kernel_rfl
theorem peloruslaw03_DyMakes.bits7 : waitsOk peloruslaw03_DyMakes.T7.2 peloruslaw03_DyMakes.B7 = true := by kernel_rfl
def peloruslaw03_DyMakes.T8 : Bool × List (List Nat × List Nat) := (true, [([], []), ([0], [0]), ([1], [1]), ([1, 2], [1, 2]), ([3, 1], [3]), ([4], [4]), ([5, 4, 4], [4, 5]), ([4, 6], [4, 6]), ([7, 6], [7]), ([8], [8]), ([9, 8, 8], [8, 9]), ([8], [8]), ([11, 10, 8], [8, 11]), ([10, 12, 8], [8, 10, 12]), ([8, 13], [8, 13]), ([14, 12], [14]), ([15], [15]), ([16, 15, 15], [15, 16]), ([15], [15]), ([18, 17, 15], [15, 18]), ([17, 19, 15], [15, 17, 19]), ([15, 20], [15, 20]), ([21, 19, 0, 1, 2, 3, 4, 5, 6, 7, 8, 9, 10, 11, 12, 13, 14, 15, 16, 17, 18, 19, 20, 21], [21])])
def peloruslaw03_DyMakes.B8 : List Nat := [0, 1, 3, 7, 15, 31, 63, 127, 255, 511, 1023, 511, 4095, 8191, 16383, 32767, 65535, 131071, 65535, 524287, 1048575, 2097151, 4194303]
theorem peloruslaw03_DyMakes.tab8 : rtab .any (opsOf Tryd.f3 8) = peloruslaw03_DyMakes.T8 := by kernel_rfl
theorem peloruslaw03_DyMakes.bits8 : waitsOk peloruslaw03_DyMakes.T8.2 peloruslaw03_DyMakes.B8 = true := by kernel_rfl
set_option maxHeartbeats 8000000 in
set_option maxRecDepth 100000 in
theorem peloruslaw03_DyMakes.calls (k : Nat) (a0_0 : Bool) (A0_1 : Option Addr) (c0_1 : Nat) (l0_1 : List Int) (a1 : Int) (a2 : Int) (r : Bool) (w : World) (hr0_1 : Kd.C (Kd.int .u32) w A0_1 l0_1.length l0_1) (hc0_1 : l0_1.length ≤ c0_1) (hr_ : r = true) (haw_ : ∀ r, peloruslaw03_awake.f k = some r → r = true) (h : peloruslaw03_DyMakes.f k a0_0 l0_1 a1 a2 = some r) (htab_ : Kd.C (Kd.int .u8) w (some ⟨0, 0, none⟩) 32 tz32tab) :
  Calls Tryd.prog 3 #[.agg #[.bool a0_0, .slice A0_1 l0_1.length c0_1], .int .i64 a1, .int .i64 a2] w fun e w' => e = .returned (.bool r) ∧ Below w.heap.size w w' := by
 have HTAB := Aside0.mk htab_
 clear htab_
 have HRT_ := Aside0.mk hr_
 clear hr_
 have HAW_ := Aside0.mk haw_
 clear haw_
 have hu24 := Tryd.underlying24
 have hu27 := Tryd.underlying27
 have HR0_1 := Aside0.mk hr0_1
 have HC0_1 := Aside0.mk hc0_1
 clear hr0_1 hc0_1
 have HB := Aside0.mk (Below.refl w.heap.size w)
 have H : ((peloruslaw03_awake.f k).bind fun t609 => (if t609 = true then (peloruslaw03_DyMakes.j0 k a1 a2 t609 (decide ((l0_1.length : Int) > 20)) a0_0 l0_1) else (peloruslaw03_DyMakes.j0 k a1 a2 t609 true a0_0 l0_1))) = some r := h
 clear h
 replace H := Option.bind_eq_some_iff.mp H
 obtain ⟨t609, A40, H⟩ := H
 (try dsimp only at H)
 have A4 := Aside0.mk A40
 clear A40
 have HC5 := Aside0.mk H
 clear H
 go_enter Tryd.func3, Tryd.ntmps3
 go_upto_region 2 with (first | ((with_reducible refine gate_dst (N := 3) rfl ?_); (try (refine gate_guard (by rfl) ?_; dsimp only)); refine bx_ 3 #[.bool a0_0, .slice A0_1 l0_1.length c0_1] 24 ?_; intro gb608 hg w6 hbox hb; have BK608 := Aside0.mk (hbox); have GW608 := ge_ hg HB; have GE608 := ge_ hg HB; replace HB := bq_ HB hb; clear hb hbox hg) | ((with_reducible refine gate_callee (f := 9) rfl ?_); refine gl_ (some 12) Tryd.func9 #[] ?_; (with_reducible refine (peloruslaw03_awake.calls k  t609 _ (HAW_.out _ A4.out) A4.out ?sidet).mono ?_); (case sidet => exact Kd.C_below HTAB.out (bw_ HB.out)); rintro e w7 ⟨rfl, hb⟩; refine ⟨_, rfl, ?_⟩; replace BK608 := kq_ BK608 hb; replace HB := bq_ HB hb; (try clear hb); (try clear hb2); (try clear hk); (try clear hi)))
 (try simp only [Act.put, List.setIfInBounds_toArray, List.set_cons_zero, List.set_cons_succ])
 go_cut [20] (fun v20 wc => ∃ (kq : Nat) (x20_4 : Bool), v20 = .bool x20_4 ∧ Aside0 (peloruslaw03_DyMakes.j0 kq a1 a2 t609 x20_4 a0_0 l0_1 = some r) ∧ Aside0 (kq ≤ k) ∧ Aside0 (wc.heap[gb608]? = some (.cells #[.bool a0_0, (.slice A0_1 l0_1.length c0_1)] 24 (0, 0))) ∧ Aside0 (Below w.heap.size w wc))
 case first =>
  have H := HC5.out
  clear HC5
  by_cases c8 : t609 = true
  ·subst c8
   have H1 : (peloruslaw03_DyMakes.j0 k a1 a2 true (decide ((l0_1.length : Int) > 20)) a0_0 l0_1) = some r := by rw [if_pos rfl] at H; exact H
   clear H
   have H := H1
   clear H1
   have H' := Aside0.mk H
   clear H
   obtain ⟨hcz9_0, hcz9_1, hfz9_0, hfz9_1⟩ := c2_ BK608
   go_wp2
   go_meet
   case rel => exact ⟨_, (decide ((l0_1.length : Int) > 20)), (by first | rfl | (simp; done) | (simp [*]; done)), H', ⟨by first | omega | exact Nat.le_refl _⟩, ⟨kb_ BK608.out⟩, ⟨bw_ HB.out⟩⟩
  ·replace c8 := Bool.eq_false_iff.mpr c8
   subst c8
   have H1 : (peloruslaw03_DyMakes.j0 k a1 a2 false true a0_0 l0_1) = some r := by rw [if_neg (show ¬ (false = true) by decide)] at H; exact H
   clear H
   have H := H1
   clear H1
   have H' := Aside0.mk H
   clear H
   go_wp2
   go_meet
   case rel => exact ⟨_, (true), (by first | rfl | (simp; done) | (simp [*]; done)), H', ⟨by first | omega | exact Nat.le_refl _⟩, ⟨kb_ BK608.out⟩, ⟨bw_ HB.out⟩⟩
 case rest =>
  clear HC5
  try clear p2
  try clear c3
  try clear c8
  try clear c9
  try clear hcz9_0 hcz9_1
  try clear hfz9_0 hfz9_1
  obtain ⟨kq, x20_4, rfl, HA, HJ4, BK608, HB⟩ := hcut
  cases kq with
  | zero => exact absurd HA.out (by simp [peloruslaw03_DyMakes.j0])
  | succ kj4 =>
   have H := HA.out
   clear HA
   simp only [peloruslaw03_DyMakes.j0] at H
   by_cases c10 : x20_4 = true
   ·subst c10
    have H1 : (some t609) = some r := by rw [if_pos rfl] at H; exact H
    clear H
    have H := H1
    clear H1
    obtain rfl := Option.some.inj H
    go_wp2
    go_ret
    exact ⟨rf_, bw_ HB.out⟩
   ·replace c10 := Bool.eq_false_iff.mpr c10
    subst c10
    have H1 : ((dy_Make.f kj4 a0_0 l0_1 a1).bind fun bt610 => ((pelorusref03_Make.f kj4 a0_0 l0_1 a1).bind fun bt617 => ((pelorusref03_Alike.f kj4 bt610.1 bt610.2.1 bt610.2.2 bt617.1 bt617.2.1 bt617.2.2).bind fun t622 => ((dy_Move.f kj4 a0_0 l0_1 a1 a2).bind fun bt623 => ((pelorusref03_Move.f kj4 a0_0 l0_1 a1 a2).bind fun bt628 => ((pelorusref03_Alike.f kj4 bt623.1 bt623.2.1 bt623.2.2 bt628.1 bt628.2.1 bt628.2.2).bind fun t633 => (if t622 = true then (if t633 = true then ((dy_May.f bt610.1 bt610.2.1 bt610.2.2).bind fun t634 => (if t634 = true then ((dy_May.f a0_0 l0_1 a1).bind fun t635 => ((pelorusref03_May.f a0_0 l0_1 a1).bind fun t636 => (if (t635 == t636) = true then ((dy_Sign.f kj4 a0_0 l0_1 a1).bind fun t637 => ((pelorusref03_Sign.f kj4 a0_0 l0_1 a1).bind fun t638 => (some (t637 == t638)))) else (some false)))) else (some false))) else (some false)) else (some false)))))))) = some r := by rw [if_neg (show ¬ (false = true) by decide)] at H; exact H
    clear H
    have H := H1
    clear H1
    replace H := Option.bind_eq_some_iff.mp H
    obtain ⟨⟨t610, t611, t614⟩, A110, H⟩ := H
    (try dsimp only at H)
    have A11 := Aside0.mk A110
    clear A110
    replace H := Option.bind_eq_some_iff.mp H
    obtain ⟨⟨t617, t618, t621⟩, A120, H⟩ := H
    (try dsimp only at H)
    have A12 := Aside0.mk A120
    clear A120
    replace H := Option.bind_eq_some_iff.mp H
    obtain ⟨t622, A130, H⟩ := H
    (try dsimp only at H)
    have A13 := Aside0.mk A130
    clear A130
    replace H := Option.bind_eq_some_iff.mp H
    obtain ⟨⟨t623, t624, t627⟩, A140, H⟩ := H
    (try dsimp only at H)
    have A14 := Aside0.mk A140
    clear A140
    replace H := Option.bind_eq_some_iff.mp H
    obtain ⟨⟨t628, t629, t632⟩, A150, H⟩ := H
    (try dsimp only at H)
    have A15 := Aside0.mk A150
    clear A150
    replace H := Option.bind_eq_some_iff.mp H
    obtain ⟨t633, A160, H⟩ := H
    (try dsimp only at H)
    have A16 := Aside0.mk A160
    clear A160
    by_cases c17 : t622 = true
    ·subst c17
     have H1 : (if t633 = true then ((dy_May.f t610 t611 t614).bind fun t634 => (if t634 = true then ((dy_May.f a0_0 l0_1 a1).bind fun t635 => ((pelorusref03_May.f a0_0 l0_1 a1).bind fun t636 => (if (t635 == t636) = true then ((dy_Sign.f kj4 a0_0 l0_1 a1).bind fun t637 => ((pelorusref03_Sign.f kj4 a0_0 l0_1 a1).bind fun t638 => (some (t637 == t638)))) else (some false)))) else (some false))) else (some false)) = some r := by rw [if_pos rfl] at H; exact H
     clear H
     have H := H1
     clear H1
     by_cases c18 : t633 = true
     ·subst c18
      have H1 : ((dy_May.f t610 t611 t614).bind fun t634 => (if t634 = true then ((dy_May.f a0_0 l0_1 a1).bind fun t635 => ((pelorusref03_May.f a0_0 l0_1 a1).bind fun t636 => (if (t635 == t636) = true then ((dy_Sign.f kj4 a0_0 l0_1 a1).bind fun t637 => ((pelorusref03_Sign.f kj4 a0_0 l0_1 a1).bind fun t638 => (some (t637 == t638)))) else (some false)))) else (some false))) = some r := by rw [if_pos rfl] at H; exact H
      clear H
      have H := H1
      clear H1
      replace H := Option.bind_eq_some_iff.mp H
      obtain ⟨t634, A190, H⟩ := H
      (try dsimp only at H)
      have A19 := Aside0.mk A190
      clear A190
      by_cases c20 : t634 = true
      ·subst c20
       have H1 : ((dy_May.f a0_0 l0_1 a1).bind fun t635 => ((pelorusref03_May.f a0_0 l0_1 a1).bind fun t636 => (if (t635 == t636) = true then ((dy_Sign.f kj4 a0_0 l0_1 a1).bind fun t637 => ((pelorusref03_Sign.f kj4 a0_0 l0_1 a1).bind fun t638 => (some (t637 == t638)))) else (some false)))) = some r := by rw [if_pos rfl] at H; exact H
       clear H
       have H := H1
       clear H1
       replace H := Option.bind_eq_some_iff.mp H
       obtain ⟨t635, A210, H⟩ := H
       (try dsimp only at H)
       have A21 := Aside0.mk A210
       clear A210
       replace H := Option.bind_eq_some_iff.mp H
       obtain ⟨t636, A220, H⟩ := H
       (try dsimp only at H)
       have A22 := Aside0.mk A220
       clear A220
       by_cases c23 : (t635 == t636) = true
       ·rw [if_pos c23] at H
        have c23b0 : (t635 == t636) = true := c23
        (try (have c23b1 : decide (t635 = t636) = true := by simpa using c23))
        (try (have c23b2 : (t635 == t636) = true := by simpa using c23))
        clear c23
        replace H := Option.bind_eq_some_iff.mp H
        obtain ⟨t637, A240, H⟩ := H
        (try dsimp only at H)
        have A24 := Aside0.mk A240
        clear A240
        replace H := Option.bind_eq_some_iff.mp H
        obtain ⟨t638, A250, H⟩ := H
        (try dsimp only at H)
        have A25 := Aside0.mk A250
        clear A250
        obtain rfl := Option.some.inj H
        obtain ⟨hcz26_0, hcz26_1, hfz26_0, hfz26_1⟩ := c2_ BK608
        try go_wp2_with (first | ((with_reducible refine gate_callee (f := 10) rfl ?_); refine gl_ (some 24) Tryd.func10 #[.agg #[.bool a0_0, .slice A0_1 l0_1.length c0_1], .int .i64 a1] ?_; (with_reducible refine (dy_Make.calls kj4 a0_0 _ _ l0_1 a1 t610 t611 t614 _ ?side1 ?side2 A11.out ?sidet).mono ?_); (case sidet => exact Kd.C_below HTAB.out (bw_ HB.out)); (case side1 => exact kc_ (Kd.C_below HR0_1.out HB.out)); (case side2 => exact HC0_1.out); rintro e w27 ⟨v612, rfl, ho0, hb⟩; refine ⟨_, rfl, ?_⟩; have HO613 := Aside0.mk (Kd.R_lower ho0 (below_size (bw_ HB.out))); replace BK608 := kq_ BK608 hb; replace HB := bq_ HB hb; (try clear hb); (try clear hb2); (try clear hk); (try clear hi); (try clear ho0)) | ((with_reducible refine gate_dst (N := 8) rfl ?_); (try (refine gate_guard (by rfl) ?_; dsimp only)); refine bx_ 8 #[.bool false, .slice none 0 0, .int .i64 0] 27 ?_; intro gb615 hg w28 hbox hb; have BK615 := Aside0.mk (hbox); have GW615 := ge_ hg HB; have GE615 := ge_ hg HB; have NB608_615 := nb_ hg BK608; have NB615_608 := nc_ hg BK608; replace HO613 := Aside0.mk (Kd.R_below (kr_ HO613.out) hb); replace BK608 := kq_ BK608 hb; replace HB := bq_ HB hb; clear hb hbox hg; have hnb29 := NB615_608.out; have hnc29 := NB608_615.out; obtain ⟨hcz30_0, hcz30_1, hcz30_2, hfz30_0, hfz30_1, hfz30_2⟩ := c3_ BK615; obtain ⟨Ao31, co31, eo31⟩ := Kd.R_slice HO613.out; subst eo31; obtain ⟨hcz32_0, hcz32_1, hfz32_0, hfz32_1⟩ := c2_ BK608) | ((with_reducible refine gate_dst (N := 9) rfl ?_); (try (refine gate_guard (by rfl) ?_; dsimp only)); refine bx_ 9 #[.bool false, .slice none 0 0, .int .i64 0] 27 ?_; intro gb616 hg w33 hbox hb; have n0_ := Aside0.mk (Kd.R_below (kr_ ((Kd.R_mono (Kd.R_far (p := ⟨gb615, 2, none⟩) (Kd.R_far (p := ⟨gb615, 1, none⟩) (Kd.R_far (p := ⟨gb615, 0, none⟩) (Kd.R_types HO613.out BK615.out (by decide)) (fun _ hk => hk.2) (.bool t610)) (fun _ hk => hk.2) (.slice Ao31 t611.length co31)) (fun _ hk => hk.2) (.int .i64 t614)) (fun _ h_ => h_.1)))) hb); have n1_ := Aside0.mk (blk_below (g := gb608) (o := .cells #[.bool a0_0, .slice A0_1 l0_1.length c0_1] 24 (0, 0)) (by refine kb_ ?_; refine bf_ NB608_615 ?_; refine bf_ NB608_615 ?_; refine bf_ NB608_615 ?_; exact BK608.out) hb); have n2_ := Aside0.mk (blk_below (g := gb615) (o := .cells #[.bool t610, .slice Ao31 t611.length co31, .int .i64 t614] 27 (0, 0)) (by refine kb_ ?_; refine bp_ #[.bool t610, .slice Ao31 t611.length co31, .int .i64 0] 2 ?_; refine bp_ #[.bool t610, .slice none 0 0, .int .i64 0] 1 ?_; refine bp_ #[.bool false, .slice none 0 0, .int .i64 0] 0 ?_; exact BK615.out) hb); have n3_ := bq_ HB hb; have n4_ := Aside0.mk (hbox); have n5_ := ge_ hg HB; have n6_ := ge_ hg HB; have n7_ := Aside0.mk ((by rw [hg]; exact Nat.ne_of_lt (blk_lt (g := gb608) (o := .cells #[.bool a0_0, .slice A0_1 l0_1.length c0_1] 24 (0, 0)) (by refine kb_ ?_; refine bf_ NB608_615 ?_; refine bf_ NB608_615 ?_; refine bf_ NB608_615 ?_; exact BK608.out)) : gb608 ≠ gb616)); have n8_ := Aside0.mk ((by rw [hg]; exact Nat.ne_of_gt (blk_lt (g := gb608) (o := .cells #[.bool a0_0, .slice A0_1 l0_1.length c0_1] 24 (0, 0)) (by refine kb_ ?_; refine bf_ NB608_615 ?_; refine bf_ NB608_615 ?_; refine bf_ NB608_615 ?_; exact BK608.out)) : gb616 ≠ gb608)); have n9_ := Aside0.mk ((by rw [hg]; exact Nat.ne_of_lt (blk_lt (g := gb615) (o := .cells #[.bool t610, .slice Ao31 t611.length co31, .int .i64 t614] 27 (0, 0)) (by refine kb_ ?_; refine bp_ #[.bool t610, .slice Ao31 t611.length co31, .int .i64 0] 2 ?_; refine bp_ #[.bool t610, .slice none 0 0, .int .i64 0] 1 ?_; refine bp_ #[.bool false, .slice none 0 0, .int .i64 0] 0 ?_; exact BK615.out)) : gb615 ≠ gb616)); have n10_ := Aside0.mk ((by rw [hg]; exact Nat.ne_of_gt (blk_lt (g := gb615) (o := .cells #[.bool t610, .slice Ao31 t611.length co31, .int .i64 t614] 27 (0, 0)) (by refine kb_ ?_; refine bp_ #[.bool t610, .slice Ao31 t611.length co31, .int .i64 0] 2 ?_; refine bp_ #[.bool t610, .slice none 0 0, .int .i64 0] 1 ?_; refine bp_ #[.bool false, .slice none 0 0, .int .i64 0] 0 ?_; exact BK615.out)) : gb616 ≠ gb615)); clear HO613; clear BK608; clear BK615; clear HB; have HO613 := n0_; have BK608 := n1_; have BK615 := n2_; have HB := n3_; have BK616 := n4_; have GW616 := n5_; have GE616 := n6_; have NB608_616 := n7_; have NB616_608 := n8_; have NB615_616 := n9_; have NB616_615 := n10_; clear n0_ n1_ n2_ n3_ n4_ n5_ n6_ n7_ n8_ n9_ n10_; clear hb hbox hg; have hnb34 := NB616_608.out; have hnc34 := NB608_616.out; have hnb35 := NB616_615.out; have hnc35 := NB615_616.out; obtain ⟨hcz36_0, hcz36_1, hcz36_2, hfz36_0, hfz36_1, hfz36_2⟩ := c3_ BK616))
        have n0_ : Aside0 (Kd.R (Kd.int .u32) 51 (((w33.setCell ⟨gb616, 0, none⟩ (.bool a0_0)).setCell ⟨gb616, 1, none⟩ (.slice A0_1 l0_1.length c0_1)).setCell ⟨gb616, 2, none⟩ (.int .i64 a1)) w.heap.size (fun _ => True) (.slice Ao31 t611.length co31) t611) := ⟨by (with_reducible repeat (first | apply Kd.R_alloc | apply Kd.R_drewN | apply Kd.R_drew)); exact Kd.R_mono (Kd.R_far (p := ⟨gb616, 2, none⟩) (Kd.R_far (p := ⟨gb616, 1, none⟩) (Kd.R_far (p := ⟨gb616, 0, none⟩) (Kd.R_types HO613.out BK616.out (by decide)) (fun _ hk => hk.2) (.bool a0_0)) (fun _ hk => hk.2) (.slice A0_1 l0_1.length c0_1)) (fun _ hk => hk.2) (.int .i64 a1)) (fun _ hk => trivial)⟩
        have n1_ : Aside0 ((((w33.setCell ⟨gb616, 0, none⟩ (.bool a0_0)).setCell ⟨gb616, 1, none⟩ (.slice A0_1 l0_1.length c0_1)).setCell ⟨gb616, 2, none⟩ (.int .i64 a1)).heap[gb608]? = some (.cells #[.bool a0_0, .slice A0_1 l0_1.length c0_1] 24 (0, 0))) := ⟨by refine kb_ ?_; refine bf_ NB608_616 ?_; refine bf_ NB608_616 ?_; refine bf_ NB608_616 ?_; exact BK608.out⟩
        have n2_ : Aside0 ((((w33.setCell ⟨gb616, 0, none⟩ (.bool a0_0)).setCell ⟨gb616, 1, none⟩ (.slice A0_1 l0_1.length c0_1)).setCell ⟨gb616, 2, none⟩ (.int .i64 a1)).heap[gb615]? = some (.cells #[.bool t610, .slice Ao31 t611.length co31, .int .i64 t614] 27 (0, 0))) := ⟨by refine kb_ ?_; refine bf_ NB615_616 ?_; refine bf_ NB615_616 ?_; refine bf_ NB615_616 ?_; exact BK615.out⟩
        have n3_ : Aside0 ((((w33.setCell ⟨gb616, 0, none⟩ (.bool a0_0)).setCell ⟨gb616, 1, none⟩ (.slice A0_1 l0_1.length c0_1)).setCell ⟨gb616, 2, none⟩ (.int .i64 a1)).heap[gb616]? = some (.cells #[.bool a0_0, .slice A0_1 l0_1.length c0_1, .int .i64 a1] 27 (0, 0))) := ⟨by refine kb_ ?_; refine bp_ #[.bool a0_0, .slice A0_1 l0_1.length c0_1, .int .i64 0] 2 ?_; refine bp_ #[.bool a0_0, .slice none 0 0, .int .i64 0] 1 ?_; refine bp_ #[.bool false, .slice none 0 0, .int .i64 0] 0 ?_; exact BK616.out⟩
        have n4_ : Aside0 (Below w.heap.size w (((w33.setCell ⟨gb616, 0, none⟩ (.bool a0_0)).setCell ⟨gb616, 1, none⟩ (.slice A0_1 l0_1.length c0_1)).setCell ⟨gb616, 2, none⟩ (.int .i64 a1))) := ⟨bw_ HB.out⟩
        (try clear HO613)
        (try clear BK608)
        (try clear BK615)
        (try clear BK616)
        (try clear HB)
        generalize (((w33.setCell ⟨gb616, 0, none⟩ (.bool a0_0)).setCell ⟨gb616, 1, none⟩ (.slice A0_1 l0_1.length c0_1)).setCell ⟨gb616, 2, none⟩ (.int .i64 a1)) = w37 at n0_ n1_ n2_ n3_ n4_ ⊢
        have HO613 := n0_
        have BK608 := n1_
        have BK615 := n2_
        have BK616 := n3_
        have HB := n4_
        clear n0_ n1_ n2_ n3_ n4_
        replace HO613 := Aside0.mk (Kd.R_drew HO613.out)
        replace BK608 := Aside0.mk (blk_drew BK608.out)
        replace BK615 := Aside0.mk (blk_drew BK615.out)
        replace BK616 := Aside0.mk (blk_drew BK616.out)
        replace HB := Aside0.mk (below_drew1 HB.out)
        refine start_ (n := 6) (S := fun w' => w'.cell? ⟨gb615, 0, none⟩ = some (.bool t610) ∧ w'.cell? ⟨gb615, 1, none⟩ = some (.slice Ao31 t611.length co31) ∧ w'.cell? ⟨gb615, 2, none⟩ = some (.int .i64 t614) ∧ w'.cell? ⟨gb608, 0, none⟩ = some (.bool a0_0) ∧ w'.cell? ⟨gb608, 1, none⟩ = some (.slice A0_1 l0_1.length c0_1)) (ds := []) #[false, false, false, false, false, false] (by kernel_rfl) rfl rfl ⟨(blk_cell BK615.out 0).trans rfl, (blk_cell BK615.out 1).trans rfl, (blk_cell BK615.out 2).trans rfl, (blk_cell BK608.out 0).trans rfl, (blk_cell BK608.out 1).trans rfl⟩ (fun hHeld => ?_)
        generalize w37.drew = w38 at HO613 BK608 BK615 BK616 HB hHeld ⊢
        refine pure_ (i := 2) (N := some 30) (v := ?_) (a' := ?_) #[false, false, true, false, false, false] rfl rfl (by kernel_rfl) (fun _ _ _ h => h) (Or.inl ⟨by rfl, ?_⟩) ?_ ?_
        rotate_left
        ·intro w'
         go_simp
         with_reducible rfl
        rotate_left
        ·exact pt_
        refine take_ (i := 0) (N := some 28) (v := ?_) (a' := ?_) #[true, false, true, false, false, false] rfl rfl (by kernel_rfl) (fun _ _ _ h => h) (Or.inl ⟨by rfl, ?_⟩) hHeld ?_ ?_
        rotate_left
        ·rintro w' ⟨s0, s1, s2, s3, s4⟩
         go_simp
         with_reducible rfl
        rotate_left
        ·exact pt_
        refine take_ (i := 1) (N := some 29) (v := ?_) (a' := ?_) #[true, true, true, false, false, false] rfl rfl (by kernel_rfl) (fun _ _ _ h => h) (Or.inl ⟨by rfl, ?_⟩) hHeld ?_ ?_
        rotate_left
        ·rintro w' ⟨s0, s1, s2, s3, s4⟩
         go_simp
         with_reducible rfl
        rotate_left
        ·exact pt_
        refine one_ (i := 3) (N := some 31) #[true, true, true, true, false, false] rfl rfl (by kernel_rfl) (by decide) (fun K hK => ?_)
        refine gs_ Tryd.func12 #[.agg #[.bool a0_0, .slice A0_1 l0_1.length c0_1], .int .i64 a1] ?_
        with_reducible refine (pelorusref03_Make.calls kj4 a0_0 _ _ l0_1 a1 t617 t618 t621 _ ?side1 ?side2 A12.out).mono ?_
        (case side1 => exact kc_ (Kd.C_below HR0_1.out HB.out))
        (case side2 => exact HC0_1.out)
        rintro e w39 ⟨v619, rfl, ho0, hb⟩
        refine ⟨_, rfl, ?_⟩
        have HO620 := Aside0.mk (Kd.R_lower (Kd.R_new' ho0 (Kd.R_lt (kr_ HO613.out))) (below_size (bw_ HB.out)))
        replace HO613 := Aside0.mk (Kd.R_elder' (kr_ HO613.out) (Kd.R_base ho0) hb)
        replace BK608 := kq_ BK608 hb
        replace BK615 := kq_ BK615 hb
        replace BK616 := kq_ BK616 hb
        replace HB := bq_ HB hb
        (try clear hb)
        (try clear hb2)
        (try clear hk)
        (try clear hi)
        (try clear ho0)
        obtain ⟨Ao40, co40, eo40⟩ := Kd.R_slice HO620.out
        (first | subst eo40 | (injection eo40 with f1_ f2_ f3_; have f4_ := f1_.symm; have f5_ := f3_.symm; clear f1_ f2_ f3_; subst f4_; subst f5_))
        refine hK.out _ _ ⟨(blk_cell BK615.out 0).trans rfl, (blk_cell BK615.out 1).trans rfl, (blk_cell BK615.out 2).trans rfl, (blk_cell BK608.out 0).trans rfl, (blk_cell BK608.out 1).trans rfl⟩ (fun hHeld => ?_)
        clear hK K
        refine norm_ (a' := ?_) ?_ ?_
        rotate_left
        ·show Act.put _ (some 31) _ = _
         exact pt_
        refine one_ (i := 4) (N := some 32) #[true, true, true, true, true, false] rfl rfl (by kernel_rfl) (by decide) (fun K hK => ?_)
        refine gs_ Tryd.func11 #[.agg #[.bool t610, .slice Ao31 t611.length co31, .int .i64 t614], .agg #[.bool t617, .slice Ao40 t618.length co40, .int .i64 t621]] ?_
        with_reducible refine (pelorusref03_Alike.calls kj4 t610 _ _ t611 t614 t617 _ _ t618 t621 true _ ?side1 ?side2 ?side3 ?side4 A13.out).mono ?_
        (case side1 => exact kc_ (Kd.R_reads' HO613.out).2.2)
        (case side2 => exact (Kd.R_reads' HO613.out).2.1)
        (case side3 => exact kc_ (Kd.R_reads' HO620.out).2.2)
        (case side4 => exact (Kd.R_reads' HO620.out).2.1)
        rintro e w41 ⟨rfl, hb⟩
        refine ⟨_, rfl, ?_⟩
        replace HO613 := Aside0.mk (Kd.R_below (kr_ HO613.out) hb)
        replace HO620 := Aside0.mk (Kd.R_below (kr_ HO620.out) hb)
        replace BK608 := kq_ BK608 hb
        replace BK615 := kq_ BK615 hb
        replace BK616 := kq_ BK616 hb
        replace HB := bq_ HB hb
        (try clear hb)
        (try clear hb2)
        (try clear hk)
        (try clear hi)
        refine hK.out _ _ ⟨(blk_cell BK615.out 0).trans rfl, (blk_cell BK615.out 1).trans rfl, (blk_cell BK615.out 2).trans rfl, (blk_cell BK608.out 0).trans rfl, (blk_cell BK608.out 1).trans rfl⟩ (fun hHeld => ?_)
        clear hK K
        refine norm_ (a' := ?_) ?_ ?_
        rotate_left
        ·show Act.put _ (some 32) _ = _
         exact pt_
        refine pure_ (i := 5) (N := some 10) (v := ?_) (a' := ?_) #[true, true, true, true, true, true] rfl rfl (by kernel_rfl) (fun _ _ _ h => h) (Or.inl ⟨by rfl, ?_⟩) ?_ ?_
        rotate_left
        ·intro w'
         go_simp
         with_reducible rfl
        rotate_left
        ·exact pt_
        refine done_ (by kernel_rfl) ?_
        try go_wp2
        replace HO613 := Aside0.mk (Kd.R_drew HO613.out)
        replace HO620 := Aside0.mk (Kd.R_drew HO620.out)
        replace BK608 := Aside0.mk (blk_drew BK608.out)
        replace BK615 := Aside0.mk (blk_drew BK615.out)
        replace BK616 := Aside0.mk (blk_drew BK616.out)
        replace HB := Aside0.mk (below_drew1 HB.out)
        refine start_ (n := 8) (S := fun w' => w'.cell? ⟨gb616, 0, none⟩ = some (.bool a0_0) ∧ w'.cell? ⟨gb616, 1, none⟩ = some (.slice A0_1 l0_1.length c0_1) ∧ w'.cell? ⟨gb616, 2, none⟩ = some (.int .i64 a1)) (ds := []) #[false, false, false, false, false, false, false, false] (by kernel_rfl) rfl rfl ⟨(blk_cell BK616.out 0).trans rfl, (blk_cell BK616.out 1).trans rfl, (blk_cell BK616.out 2).trans rfl⟩ (fun hHeld => ?_); refine with_tabW peloruslaw03_DyMakes.tab7 peloruslaw03_DyMakes.bits7 (fun HT_ HW_ => ?_)
        generalize w41.drew = w42 at HO613 HO620 BK608 BK615 BK616 HB hHeld ⊢
        refine pure_ (i := 1) (N := some 34) (v := ?_) (a' := ?_) #[false, true, false, false, false, false, false, false] rfl rfl (any_of HT_.out (by kernel_rfl)) (fun _ _ _ h => h) (Or.inl ⟨by rfl, ?_⟩) ?_ ?_
        rotate_left
        ·intro w'
         go_simp
         with_reducible rfl
        rotate_left
        ·exact pt_
        refine pure_ (i := 4) (N := some 37) (v := ?_) (a' := ?_) #[false, true, false, false, true, false, false, false] rfl rfl (any_of HT_.out (by kernel_rfl)) (fun _ _ _ h => h) (Or.inl ⟨by rfl, ?_⟩) ?_ ?_
        rotate_left
        ·intro w'
         go_simp
         with_reducible rfl
        rotate_left
        ·exact pt_
        refine take_ (i := 0) (N := some 33) (v := ?_) (a' := ?_) #[true, true, false, false, true, false, false, false] rfl rfl (take_ofW HT_.out HW_.out (by kernel_rfl)) (fun _ _ _ h => h) (Or.inl ⟨by rfl, ?_⟩) hHeld ?_ ?_
        rotate_left
        ·rintro w' ⟨s0, s1, s2⟩
         go_simp
         with_reducible rfl
        rotate_left
        ·exact pt_
        refine take_ (i := 3) (N := some 36) (v := ?_) (a' := ?_) #[true, true, false, true, true, false, false, false] rfl rfl (take_ofW HT_.out HW_.out (by kernel_rfl)) (fun _ _ _ h => h) (Or.inl ⟨by rfl, ?_⟩) hHeld ?_ ?_
        rotate_left
        ·rintro w' ⟨s0, s1, s2⟩
         go_simp
         with_reducible rfl
        rotate_left
        ·exact pt_
        refine one_ (i := 2) (N := some 35) #[true, true, true, true, true, false, false, false] rfl rfl (one_of HT_.out (by kernel_rfl)) (by decide) (fun K hK => ?_)
        refine gs_ Tryd.func13 #[.agg #[.bool a0_0, .slice A0_1 l0_1.length c0_1, .int .i64 a1], .int .i64 a2] ?_
        with_reducible refine (dy_Move.calls kj4 a0_0 _ _ l0_1 a1 a2 t623 t624 t627 _ ?side1 ?side2 A14.out ?sidet).mono ?_
        (case sidet => exact Kd.C_below HTAB.out (bw_ HB.out))
        (case side1 => exact kc_ (Kd.C_below HR0_1.out HB.out))
        (case side2 => exact HC0_1.out)
        rintro e w43 ⟨v625, rfl, ho0, hb⟩
        refine ⟨_, rfl, ?_⟩
        have HO626 := Aside0.mk (Kd.R_lower (Kd.R_new' (Kd.R_new' ho0 (Kd.R_lt (kr_ HO613.out))) (Kd.R_lt (kr_ HO620.out))) (below_size (bw_ HB.out)))
        replace HO613 := Aside0.mk (Kd.R_elder' (kr_ HO613.out) (Kd.R_base ho0) hb)
        replace HO620 := Aside0.mk (Kd.R_elder' (kr_ HO620.out) (Kd.R_base ho0) hb)
        replace BK608 := kq_ BK608 hb
        replace BK615 := kq_ BK615 hb
        replace BK616 := kq_ BK616 hb
        replace HB := bq_ HB hb
        (try clear hb)
        (try clear hb2)
        (try clear hk)
        (try clear hi)
        (try clear ho0)
        refine hK.out _ _ ⟨(blk_cell BK616.out 0).trans rfl, (blk_cell BK616.out 1).trans rfl, (blk_cell BK616.out 2).trans rfl⟩ (fun hHeld => ?_)
        clear hK K
        refine norm_ (a' := ?_) ?_ ?_
        rotate_left
        ·show Act.put _ (some 35) _ = _
         exact pt_
        refine one_ (i := 5) (N := some 38) #[true, true, true, true, true, true, false, false] rfl rfl (one_of HT_.out (by kernel_rfl)) (by decide) (fun K hK => ?_)
        refine gs_ Tryd.func14 #[.agg #[.bool a0_0, .slice A0_1 l0_1.length c0_1, .int .i64 a1], .int .i64 a2] ?_
        with_reducible refine (pelorusref03_Move.calls kj4 a0_0 _ _ l0_1 a1 a2 t628 t629 t632 _ ?side1 ?side2 A15.out).mono ?_
        (case side1 => exact kc_ (Kd.C_below HR0_1.out HB.out))
        (case side2 => exact HC0_1.out)
        rintro e w44 ⟨v630, rfl, ho0, hb⟩
        refine ⟨_, rfl, ?_⟩
        have HO631 := Aside0.mk (Kd.R_lower (Kd.R_new' (Kd.R_new' (Kd.R_new' ho0 (Kd.R_lt (kr_ HO613.out))) (Kd.R_lt (kr_ HO620.out))) (Kd.R_lt (kr_ HO626.out))) (below_size (bw_ HB.out)))
        replace HO613 := Aside0.mk (Kd.R_elder' (kr_ HO613.out) (Kd.R_base ho0) hb)
        replace HO620 := Aside0.mk (Kd.R_elder' (kr_ HO620.out) (Kd.R_base ho0) hb)
        replace HO626 := Aside0.mk (Kd.R_elder' (kr_ HO626.out) (Kd.R_base ho0) hb)
        replace BK608 := kq_ BK608 hb
        replace BK615 := kq_ BK615 hb
        replace BK616 := kq_ BK616 hb
        replace HB := bq_ HB hb
        (try clear hb)
        (try clear hb2)
        (try clear hk)
        (try clear hi)
        (try clear ho0)
        obtain ⟨Ao45, co45, eo45⟩ := Kd.R_slice HO626.out
        (first | subst eo45 | (injection eo45 with f1_ f2_ f3_; have f4_ := f1_.symm; have f5_ := f3_.symm; clear f1_ f2_ f3_; subst f4_; subst f5_))
        obtain ⟨Ao46, co46, eo46⟩ := Kd.R_slice HO631.out
        (first | subst eo46 | (injection eo46 with f1_ f2_ f3_; have f4_ := f1_.symm; have f5_ := f3_.symm; clear f1_ f2_ f3_; subst f4_; subst f5_))
        refine hK.out _ _ ⟨(blk_cell BK616.out 0).trans rfl, (blk_cell BK616.out 1).trans rfl, (blk_cell BK616.out 2).trans rfl⟩ (fun hHeld => ?_)
        clear hK K
        refine norm_ (a' := ?_) ?_ ?_
        rotate_left
        ·show Act.put _ (some 38) _ = _
         exact pt_
        refine one_ (i := 6) (N := some 39) #[true, true, true, true, true, true, true, false] rfl rfl (one_of HT_.out (by kernel_rfl)) (by decide) (fun K hK => ?_)
        refine gs_ Tryd.func11 #[.agg #[.bool t623, .slice Ao45 t624.length co45, .int .i64 t627], .agg #[.bool t628, .slice Ao46 t629.length co46, .int .i64 t632]] ?_
        with_reducible refine (pelorusref03_Alike.calls kj4 t623 _ _ t624 t627 t628 _ _ t629 t632 true _ ?side1 ?side2 ?side3 ?side4 A16.out).mono ?_
        (case side1 => exact kc_ (Kd.R_reads' HO626.out).2.2)
        (case side2 => exact (Kd.R_reads' HO626.out).2.1)
        (case side3 => exact kc_ (Kd.R_reads' HO631.out).2.2)
        (case side4 => exact (Kd.R_reads' HO631.out).2.1)
        rintro e w47 ⟨rfl, hb⟩
        refine ⟨_, rfl, ?_⟩
        replace HO613 := Aside0.mk (Kd.R_below (kr_ HO613.out) hb)
        replace HO620 := Aside0.mk (Kd.R_below (kr_ HO620.out) hb)
        replace HO626 := Aside0.mk (Kd.R_below (kr_ HO626.out) hb)
        replace HO631 := Aside0.mk (Kd.R_below (kr_ HO631.out) hb)
        replace BK608 := kq_ BK608 hb
        replace BK615 := kq_ BK615 hb
        replace BK616 := kq_ BK616 hb
        replace HB := bq_ HB hb
        (try clear hb)
        (try clear hb2)
        (try clear hk)
        (try clear hi)
        refine hK.out _ _ ⟨(blk_cell BK616.out 0).trans rfl, (blk_cell BK616.out 1).trans rfl, (blk_cell BK616.out 2).trans rfl⟩ (fun hHeld => ?_)
        clear hK K
        refine norm_ (a' := ?_) ?_ ?_
        rotate_left
        ·show Act.put _ (some 39) _ = _
         exact pt_
        refine pure_ (i := 7) (N := some 11) (v := ?_) (a' := ?_) #[true, true, true, true, true, true, true, true] rfl rfl (any_of HT_.out (by kernel_rfl)) (fun _ _ _ h => h) (Or.inl ⟨by rfl, ?_⟩) ?_ ?_
        rotate_left
        ·intro w'
         go_simp
         with_reducible rfl
        rotate_left
        ·exact pt_
        refine done_ (done_of HT_.out (by kernel_rfl)) ?_
        try go_wp2
        replace HO613 := Aside0.mk (Kd.R_drew HO613.out)
        replace HO620 := Aside0.mk (Kd.R_drew HO620.out)
        replace HO626 := Aside0.mk (Kd.R_drew HO626.out)
        replace HO631 := Aside0.mk (Kd.R_drew HO631.out)
        replace BK608 := Aside0.mk (blk_drew BK608.out)
        replace BK615 := Aside0.mk (blk_drew BK615.out)
        replace BK616 := Aside0.mk (blk_drew BK616.out)
        replace HB := Aside0.mk (below_drew1 HB.out)
        refine start_ (n := 23) (S := fun w' => w'.cell? ⟨gb615, 0, none⟩ = some (.bool t610) ∧ w'.cell? ⟨gb615, 1, none⟩ = some (.slice Ao31 t611.length co31) ∧ w'.cell? ⟨gb615, 2, none⟩ = some (.int .i64 t614) ∧ w'.cell? ⟨gb616, 0, none⟩ = some (.bool a0_0) ∧ w'.cell? ⟨gb616, 1, none⟩ = some (.slice A0_1 l0_1.length c0_1) ∧ w'.cell? ⟨gb616, 2, none⟩ = some (.int .i64 a1)) (ds := []) #[false, false, false, false, false, false, false, false, false, false, false, false, false, false, false, false, false, false, false, false, false, false, false] (by kernel_rfl) rfl rfl ⟨(blk_cell BK615.out 0).trans rfl, (blk_cell BK615.out 1).trans rfl, (blk_cell BK615.out 2).trans rfl, (blk_cell BK616.out 0).trans rfl, (blk_cell BK616.out 1).trans rfl, (blk_cell BK616.out 2).trans rfl⟩ (fun hHeld => ?_); refine with_tabW peloruslaw03_DyMakes.tab8 peloruslaw03_DyMakes.bits8 (fun HT_ HW_ => ?_)
        generalize w47.drew = w48 at HO613 HO620 HO626 HO631 BK608 BK615 BK616 HB hHeld ⊢
        refine pure_ (i := 0) (N := some 40) (v := ?_) (a' := ?_) #[true, false, false, false, false, false, false, false, false, false, false, false, false, false, false, false, false, false, false, false, false, false, false] rfl rfl (any_of HT_.out (by kernel_rfl)) (fun _ _ _ h => h) (Or.inl ⟨by rfl, ?_⟩) ?_ ?_
        rotate_left
        ·intro w'
         go_simp
         with_reducible rfl
        rotate_left
        ·exact pt_
        refine pure_ (i := 1) (N := some 41) (v := ?_) (a' := ?_) #[true, true, false, false, false, false, false, false, false, false, false, false, false, false, false, false, false, false, false, false, false, false, false] rfl rfl (any_of HT_.out (by kernel_rfl)) (fun _ _ _ h => h) (Or.inl ⟨by rfl, ?_⟩) ?_ ?_
        rotate_left
        ·intro w'
         go_simp
         with_reducible rfl
        rotate_left
        ·exact pt_
        refine pure_ (i := 2) (N := some 42) (v := ?_) (a' := ?_) #[true, true, true, false, false, false, false, false, false, false, false, false, false, false, false, false, false, false, false, false, false, false, false] rfl rfl (any_of HT_.out (by kernel_rfl)) (fun _ _ _ h => h) (Or.inl ⟨by rfl, ?_⟩) ?_ ?_
        rotate_left
        ·intro w'
         go_simp
         with_reducible rfl
        rotate_left
        ·exact pt_
        refine pure_ (i := 3) (N := some 43) (v := ?_) (a' := ?_) #[true, true, true, true, false, false, false, false, false, false, false, false, false, false, false, false, false, false, false, false, false, false, false] rfl rfl (any_of HT_.out (by kernel_rfl)) (fun _ _ _ h => h) (Or.inl ⟨by rfl, ?_⟩) ?_ ?_
        rotate_left
        ·intro w'
         go_simp
         with_reducible rfl
        rotate_left
        ·exact pt_
        refine pure_ (i := 4) (N := some 44) (v := ?_) (a' := ?_) #[true, true, true, true, true, false, false, false, false, false, false, false, false, false, false, false, false, false, false, false, false, false, false] rfl rfl (any_of HT_.out (by kernel_rfl)) (fun _ _ _ h => h) (Or.inl ⟨by rfl, ?_⟩) ?_ ?_
        rotate_left
        ·intro w'
         go_simp
         with_reducible rfl
        rotate_left
        ·exact pt_
        refine take_ (i := 5) (N := some 45) (v := ?_) (a' := ?_) #[true, true, true, true, true, true, false, false, false, false, false, false, false, false, false, false, false, false, false, false, false, false, false] rfl rfl (take_ofW HT_.out HW_.out (by kernel_rfl)) (fun _ _ _ h => h) (Or.inl ⟨by rfl, ?_⟩) hHeld ?_ ?_
        rotate_left
        ·rintro w' ⟨s0, s1, s2, s3, s4, s5⟩
         go_simp
         with_reducible rfl
        rotate_left
        ·exact pt_
        refine one_ (i := 6) (N := some 46) #[true, true, true, true, true, true, true, false, false, false, false, false, false, false, false, false, false, false, false, false, false, false, false] rfl rfl (one_of HT_.out (by kernel_rfl)) (by decide) (fun K hK => ?_)
        refine gs_ Tryd.func15 #[.agg #[.bool t610, .slice Ao31 t611.length co31, .int .i64 t614]] ?_
        with_reducible refine (dy_May.calls t610 _ _ t611 t614 true _ ?side1 ?side2 A19.out).mono ?_
        (case side1 => exact kc_ (Kd.R_reads' HO613.out).2.2)
        (case side2 => exact (Kd.R_reads' HO613.out).2.1)
        rintro e w49 ⟨rfl, hb⟩
        refine ⟨_, rfl, ?_⟩
        replace HO613 := Aside0.mk (Kd.R_below (kr_ HO613.out) hb)
        replace HO620 := Aside0.mk (Kd.R_below (kr_ HO620.out) hb)
        replace HO626 := Aside0.mk (Kd.R_below (kr_ HO626.out) hb)
        replace HO631 := Aside0.mk (Kd.R_below (kr_ HO631.out) hb)
        replace BK608 := kq_ BK608 hb
        replace BK615 := kq_ BK615 hb
        replace BK616 := kq_ BK616 hb
        replace HB := bq_ HB hb
        (try clear hb)
        (try clear hb2)
        (try clear hk)
        (try clear hi)
        refine hK.out _ _ ⟨(blk_cell BK615.out 0).trans rfl, (blk_cell BK615.out 1).trans rfl, (blk_cell BK615.out 2).trans rfl, (blk_cell BK616.out 0).trans rfl, (blk_cell BK616.out 1).trans rfl, (blk_cell BK616.out 2).trans rfl⟩ (fun hHeld => ?_)
        clear hK K
        refine norm_ (a' := ?_) ?_ ?_
        rotate_left
        ·show Act.put _ (some 46) _ = _
         exact pt_
        refine pure_ (i := 7) (N := some 47) (v := ?_) (a' := ?_) #[true, true, true, true, true, true, true, true, false, false, false, false, false, false, false, false, false, false, false, false, false, false, false] rfl rfl (any_of HT_.out (by kernel_rfl)) (fun _ _ _ h => h) (Or.inl ⟨by rfl, ?_⟩) ?_ ?_
        rotate_left
        ·intro w'
         go_simp
         with_reducible rfl
        rotate_left
        ·exact pt_
        refine pure_ (i := 8) (N := some 48) (v := ?_) (a' := ?_) #[true, true, true, true, true, true, true, true, true, false, false, false, false, false, false, false, false, false, false, false, false, false, false] rfl rfl (any_of HT_.out (by kernel_rfl)) (fun _ _ _ h => h) (Or.inl ⟨by rfl, ?_⟩) ?_ ?_
        rotate_left
        ·intro w'
         go_simp
         with_reducible rfl
        rotate_left
        ·exact pt_
        refine take_ (i := 9) (N := some 49) (v := ?_) (a' := ?_) #[true, true, true, true, true, true, true, true, true, true, false, false, false, false, false, false, false, false, false, false, false, false, false] rfl rfl (take_ofW HT_.out HW_.out (by kernel_rfl)) (fun _ _ _ h => h) (Or.inl ⟨by rfl, ?_⟩) hHeld ?_ ?_
        rotate_left
        ·rintro w' ⟨s0, s1, s2, s3, s4, s5⟩
         go_simp
         with_reducible rfl
        rotate_left
        ·exact pt_
        refine take_ (i := 11) (N := some 51) (v := ?_) (a' := ?_) #[true, true, true, true, true, true, true, true, true, true, false, true, false, false, false, false, false, false, false, false, false, false, false] rfl rfl (take_ofW HT_.out HW_.out (by kernel_rfl)) (fun _ _ _ h => h) (Or.inl ⟨by rfl, ?_⟩) hHeld ?_ ?_
        rotate_left
        ·rintro w' ⟨s0, s1, s2, s3, s4, s5⟩
         go_simp
         with_reducible rfl
        rotate_left
        ·exact pt_
        refine one_ (i := 10) (N := some 50) #[true, true, true, true, true, true, true, true, true, true, true, true, false, false, false, false, false, false, false, false, false, false, false] rfl rfl (one_of HT_.out (by kernel_rfl)) (by decide) (fun K hK => ?_)
        refine gs_ Tryd.func15 #[.agg #[.bool a0_0, .slice A0_1 l0_1.length c0_1, .int .i64 a1]] ?_
        with_reducible refine (dy_May.calls a0_0 _ _ l0_1 a1 t635 _ ?side1 ?side2 A21.out).mono ?_
        (case side1 => exact kc_ (Kd.C_below HR0_1.out HB.out))
        (case side2 => exact HC0_1.out)
        rintro e w50 ⟨rfl, hb⟩
        refine ⟨_, rfl, ?_⟩
        replace HO613 := Aside0.mk (Kd.R_below (kr_ HO613.out) hb)
        replace HO620 := Aside0.mk (Kd.R_below (kr_ HO620.out) hb)
        replace HO626 := Aside0.mk (Kd.R_below (kr_ HO626.out) hb)
        replace HO631 := Aside0.mk (Kd.R_below (kr_ HO631.out) hb)
        replace BK608 := kq_ BK608 hb
        replace BK615 := kq_ BK615 hb
        replace BK616 := kq_ BK616 hb
        replace HB := bq_ HB hb
        (try clear hb)
        (try clear hb2)
        (try clear hk)
        (try clear hi)
        refine hK.out _ _ ⟨(blk_cell BK615.out 0).trans rfl, (blk_cell BK615.out 1).trans rfl, (blk_cell BK615.out 2).trans rfl, (blk_cell BK616.out 0).trans rfl, (blk_cell BK616.out 1).trans rfl, (blk_cell BK616.out 2).trans rfl⟩ (fun hHeld => ?_)
        clear hK K
        refine norm_ (a' := ?_) ?_ ?_
        rotate_left
        ·show Act.put _ (some 50) _ = _
         exact pt_
        refine one_ (i := 12) (N := some 52) #[true, true, true, true, true, true, true, true, true, true, true, true, true, false, false, false, false, false, false, false, false, false, false] rfl rfl (one_of HT_.out (by kernel_rfl)) (by decide) (fun K hK => ?_)
        refine gs_ Tryd.func16 #[.agg #[.bool a0_0, .slice A0_1 l0_1.length c0_1, .int .i64 a1]] ?_
        with_reducible refine (pelorusref03_May.calls a0_0 _ _ l0_1 a1 t636 _ ?side1 ?side2 A22.out).mono ?_
        (case side1 => exact kc_ (Kd.C_below HR0_1.out HB.out))
        (case side2 => exact HC0_1.out)
        rintro e w51 ⟨rfl, hb⟩
        refine ⟨_, rfl, ?_⟩
        replace HO613 := Aside0.mk (Kd.R_below (kr_ HO613.out) hb)
        replace HO620 := Aside0.mk (Kd.R_below (kr_ HO620.out) hb)
        replace HO626 := Aside0.mk (Kd.R_below (kr_ HO626.out) hb)
        replace HO631 := Aside0.mk (Kd.R_below (kr_ HO631.out) hb)
        replace BK608 := kq_ BK608 hb
        replace BK615 := kq_ BK615 hb
        replace BK616 := kq_ BK616 hb
        replace HB := bq_ HB hb
        (try clear hb)
        (try clear hb2)
        (try clear hk)
        (try clear hi)
        refine hK.out _ _ ⟨(blk_cell BK615.out 0).trans rfl, (blk_cell BK615.out 1).trans rfl, (blk_cell BK615.out 2).trans rfl, (blk_cell BK616.out 0).trans rfl, (blk_cell BK616.out 1).trans rfl, (blk_cell BK616.out 2).trans rfl⟩ (fun hHeld => ?_)
        clear hK K
        refine norm_ (a' := ?_) ?_ ?_
        rotate_left
        ·show Act.put _ (some 52) _ = _
         exact pt_
        refine pure_ (i := 13) (N := some 53) (v := ?_) (a' := ?_) #[true, true, true, true, true, true, true, true, true, true, true, true, true, true, false, false, false, false, false, false, false, false, false] rfl rfl (any_of HT_.out (by kernel_rfl)) (fun _ _ _ h => h) (Or.inl ⟨by rfl, ?_⟩) ?_ ?_
        rotate_left
        ·intro w'
         go_simp
         with_reducible rfl
        rotate_left
        ·exact pt_
        refine pure_ (i := 14) (N := some 54) (v := ?_) (a' := ?_) #[true, true, true, true, true, true, true, true, true, true, true, true, true, true, true, false, false, false, false, false, false, false, false] rfl rfl (any_of HT_.out (by kernel_rfl)) (fun _ _ _ h => h) (Or.inl ⟨by rfl, ?_⟩) ?_ ?_
        rotate_left
        ·intro w'
         go_simp
         with_reducible rfl
        rotate_left
        ·exact pt_
        refine pure_ (i := 15) (N := some 55) (v := ?_) (a' := ?_) #[true, true, true, true, true, true, true, true, true, true, true, true, true, true, true, true, false, false, false, false, false, false, false] rfl rfl (any_of HT_.out (by kernel_rfl)) (fun _ _ _ h => h) (Or.inl ⟨by rfl, ?_⟩) ?_ ?_
        rotate_left
        ·intro w'
         go_simp
         with_reducible rfl
        rotate_left
        ·exact pt_
        refine take_ (i := 16) (N := some 56) (v := ?_) (a' := ?_) #[true, true, true, true, true, true, true, true, true, true, true, true, true, true, true, true, true, false, false, false, false, false, false] rfl rfl (take_ofW HT_.out HW_.out (by kernel_rfl)) (fun _ _ _ h => h) (Or.inl ⟨by rfl, ?_⟩) hHeld ?_ ?_
        rotate_left
        ·rintro w' ⟨s0, s1, s2, s3, s4, s5⟩
         go_simp
         with_reducible rfl
        rotate_left
        ·exact pt_
        refine take_ (i := 18) (N := some 58) (v := ?_) (a' := ?_) #[true, true, true, true, true, true, true, true, true, true, true, true, true, true, true, true, true, false, true, false, false, false, false] rfl rfl (take_ofW HT_.out HW_.out (by kernel_rfl)) (fun _ _ _ h => h) (Or.inl ⟨by rfl, ?_⟩) hHeld ?_ ?_
        rotate_left
        ·rintro w' ⟨s0, s1, s2, s3, s4, s5⟩
         go_simp
         with_reducible rfl
        rotate_left
        ·exact pt_
        refine one_ (i := 17) (N := some 57) #[true, true, true, true, true, true, true, true, true, true, true, true, true, true, true, true, true, true, true, false, false, false, false] rfl rfl (one_of HT_.out (by kernel_rfl)) (by decide) (fun K hK => ?_)
        refine gs_ Tryd.func17 #[.agg #[.bool a0_0, .slice A0_1 l0_1.length c0_1, .int .i64 a1]] ?_
        with_reducible refine (dy_Sign.calls kj4 a0_0 _ _ l0_1 a1 t637 _ ?side1 ?side2 A24.out ?sidet).mono ?_
        (case sidet => exact Kd.C_below HTAB.out (bw_ HB.out))
        (case side1 => exact kc_ (Kd.C_below HR0_1.out HB.out))
        (case side2 => exact HC0_1.out)
        rintro e w52 ⟨rfl, hb⟩
        refine ⟨_, rfl, ?_⟩
        replace HO613 := Aside0.mk (Kd.R_below (kr_ HO613.out) hb)
        replace HO620 := Aside0.mk (Kd.R_below (kr_ HO620.out) hb)
        replace HO626 := Aside0.mk (Kd.R_below (kr_ HO626.out) hb)
        replace HO631 := Aside0.mk (Kd.R_below (kr_ HO631.out) hb)
        replace BK608 := kq_ BK608 hb
        replace BK615 := kq_ BK615 hb
        replace BK616 := kq_ BK616 hb
        replace HB := bq_ HB hb
        (try clear hb)
        (try clear hb2)
        (try clear hk)
        (try clear hi)
        refine hK.out _ _ ⟨(blk_cell BK615.out 0).trans rfl, (blk_cell BK615.out 1).trans rfl, (blk_cell BK615.out 2).trans rfl, (blk_cell BK616.out 0).trans rfl, (blk_cell BK616.out 1).trans rfl, (blk_cell BK616.out 2).trans rfl⟩ (fun hHeld => ?_)
        clear hK K
        refine norm_ (a' := ?_) ?_ ?_
        rotate_left
        ·show Act.put _ (some 57) _ = _
         exact pt_
        refine one_ (i := 19) (N := some 59) #[true, true, true, true, true, true, true, true, true, true, true, true, true, true, true, true, true, true, true, true, false, false, false] rfl rfl (one_of HT_.out (by kernel_rfl)) (by decide) (fun K hK => ?_)
        refine gs_ Tryd.func18 #[.agg #[.bool a0_0, .slice A0_1 l0_1.length c0_1, .int .i64 a1]] ?_
        with_reducible refine (pelorusref03_Sign.calls kj4 a0_0 _ _ l0_1 a1 t638 _ ?side1 ?side2 A25.out).mono ?_
        (case side1 => exact kc_ (Kd.C_below HR0_1.out HB.out))
        (case side2 => exact HC0_1.out)
        rintro e w53 ⟨rfl, hb⟩
        refine ⟨_, rfl, ?_⟩
        replace HO613 := Aside0.mk (Kd.R_below (kr_ HO613.out) hb)
        replace HO620 := Aside0.mk (Kd.R_below (kr_ HO620.out) hb)
        replace HO626 := Aside0.mk (Kd.R_below (kr_ HO626.out) hb)
        replace HO631 := Aside0.mk (Kd.R_below (kr_ HO631.out) hb)
        replace BK608 := kq_ BK608 hb
        replace BK615 := kq_ BK615 hb
        replace BK616 := kq_ BK616 hb
        replace HB := bq_ HB hb
        (try clear hb)
        (try clear hb2)
        (try clear hk)
        (try clear hi)
        refine hK.out _ _ ⟨(blk_cell BK615.out 0).trans rfl, (blk_cell BK615.out 1).trans rfl, (blk_cell BK615.out 2).trans rfl, (blk_cell BK616.out 0).trans rfl, (blk_cell BK616.out 1).trans rfl, (blk_cell BK616.out 2).trans rfl⟩ (fun hHeld => ?_)
        clear hK K
        refine norm_ (a' := ?_) ?_ ?_
        rotate_left
        ·show Act.put _ (some 59) _ = _
         exact pt_
        refine pure_ (i := 20) (N := some 60) (v := ?_) (a' := ?_) #[true, true, true, true, true, true, true, true, true, true, true, true, true, true, true, true, true, true, true, true, true, false, false] rfl rfl (any_of HT_.out (by kernel_rfl)) (fun _ _ _ h => h) (Or.inl ⟨by rfl, ?_⟩) ?_ ?_
        rotate_left
        ·intro w'
         go_simp
         with_reducible rfl
        rotate_left
        ·exact pt_
        refine pure_ (i := 21) (N := some 61) (v := ?_) (a' := ?_) #[true, true, true, true, true, true, true, true, true, true, true, true, true, true, true, true, true, true, true, true, true, true, false] rfl rfl (any_of HT_.out (by kernel_rfl)) (fun _ _ _ h => h) (Or.inl ⟨by rfl, ?_⟩) ?_ ?_
        rotate_left
        ·intro w'
         go_simp
         with_reducible rfl
        rotate_left
        ·exact pt_
        refine pure_ (i := 22) (N := some 6) (v := ?_) (a' := ?_) #[true, true, true, true, true, true, true, true, true, true, true, true, true, true, true, true, true, true, true, true, true, true, true] rfl rfl (any_of HT_.out (by kernel_rfl)) (fun _ _ _ h => h) (Or.inl ⟨by rfl, ?_⟩) ?_ ?_
        rotate_left
        ·intro w'
         go_simp
         with_reducible rfl
        rotate_left
        ·exact pt_
        refine done_ (done_of HT_.out (by kernel_rfl)) ?_
        try go_wp2
        go_ret
        exact ⟨rf_, bw_ HB.out⟩
       ·rw [if_neg c23] at H
        have c23b0 : (t635 == t636) = false := by simpa using c23
        (try (have c23b1 : decide (t635 = t636) = false := by simpa using c23))
        (try (have c23b2 : (t635 == t636) = false := by simpa using c23))
        (try (have c23b3 : ¬ (t635 = t636) := by simpa using c23))
        clear c23
        exact absurd ((Option.some.inj H).trans HRT_.out) (by simp)
      ·replace c20 := Bool.eq_false_iff.mpr c20
       subst c20
       have H1 : (some false) = some r := by rw [if_neg (show ¬ (false = true) by decide)] at H; exact H
       clear H
       have H := H1
       clear H1
       exact absurd ((Option.some.inj H).trans HRT_.out) (by simp)
     ·replace c18 := Bool.eq_false_iff.mpr c18
      subst c18
      have H1 : (some false) = some r := by rw [if_neg (show ¬ (false = true) by decide)] at H; exact H
      clear H
      have H := H1
      clear H1
      exact absurd ((Option.some.inj H).trans HRT_.out) (by simp)
    ·replace c17 := Bool.eq_false_iff.mpr c17
     subst c17
     have H1 : (some false) = some r := by rw [if_neg (show ¬ (false = true) by decide)] at H; exact H
     clear H
     have H := H1
     clear H1
     exact absurd ((Option.some.inj H).trans HRT_.out) (by simp)


end Go.Proofs.YtaookeneeemfbaaDoor.PA
