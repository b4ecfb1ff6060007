-- Laid by this work's own program; Lean checks it.
import Derived.Test.YtkemnoejpbknhaaDoorPAx0
import Derived.Test.YtkemnoejpbknhaaDoorPAx2
import Derived.Test.YtkemnoejpbknhaaDoorPAx5
import Derived.Test.YtkemnoejpbknhaaDoorPAx6
namespace Go.Proofs.YtkemnoejpbknhaaDoor.PA
open Go.RowKit Go.Proofs.YtkemnoejpbknhaaDoorW.PrintWords Go.Proofs.YtkemnoejpbknhaaDoorW.PrintLast Go.Proofs.YtkemnoejpbknhaaDoorW.PrintMore
attribute [local go_sem] max2_int min2_int max_two min_two max_three min_three max_four min_four   -- for this text's walks alone
set_option linter.unusedVariables false
set_option linter.unusedSimpArgs false

attribute [local go_sem ↓ high] isSome_set_
/-! ### peloruslaw05_awake: function 11 -/
set_option maxHeartbeats 8000000 in
set_option maxRecDepth 100000 in
theorem peloruslaw05_awake.calls (k : Nat)  (r : Bool) (w : World) (hr_ : r = true) (h : peloruslaw05_awake.f k  = some r) (htab_ : Kd.C (Kd.int .u8) w (some ⟨0, 0, none⟩) 32 tz32tab) :
  Calls Tryd.prog 11 #[] w fun e w' => e = .returned (.bool r) ∧ Below w.heap.size w w' := by
 have HTAB := Aside0.mk htab_
 clear htab_
 have HRT_ := Aside0.mk hr_
 clear hr_
 have hu30 := Tryd.underlying30
 have hu24 := Tryd.underlying24
 have hu26 := Tryd.underlying26
 have HB := Aside0.mk (Below.refl w.heap.size w)
 have H : ((num_Of.f k 1).bind fun bt260 => ((some (([1, 0, 1] : List Int) : List Int)).bind fun y265 => ((num_Round.f k false y265 0 false).bind fun bt269 => ((num_Round.f k false y265 0 true).bind fun bt274 => (if bt260.2.2.1 = 9223372036854775808 then (if bt260.2.2.2 = (-63) then (if bt260.1 = 1 then (if bt269.2.2.1 = 9223372036854775808 then (if bt269.2.2.2 = 1 then (if bt274.2.2.1 = 9223372036854775809 then (some (bt274.2.2.2 == 1)) else (some false)) else (some false)) else (some false)) else (some false)) else (some false)) else (some false)))))) = some r := h
 clear h
 replace H := Option.bind_eq_some_iff.mp H
 obtain ⟨⟨t260, t261, t262, t263⟩, A10, H⟩ := H
 (try dsimp only at H)
 have A1 := Aside0.mk A10
 clear A10
 obtain ⟨y265, hy265⟩ : ∃ y_ : List Int, y_ = (([1, 0, 1] : List Int)) := ⟨_, rfl⟩
 replace H : ((num_Round.f k false y265 0 false).bind fun bt269 => ((num_Round.f k false y265 0 true).bind fun bt274 => (if t262 = 9223372036854775808 then (if t263 = (-63) then (if t260 = 1 then (if bt269.2.2.1 = 9223372036854775808 then (if bt269.2.2.2 = 1 then (if bt274.2.2.1 = 9223372036854775809 then (some (bt274.2.2.2 == 1)) else (some false)) else (some false)) else (some false)) else (some false)) else (some false)) else (some false)))) = some r := by first | (rw [hy265]; with_reducible exact H) | (have H2_ := (Option.bind_some _ _).symm.trans H; rw [hy265]; with_reducible exact H2_) | (have H2_ := (Option.bind_some _ _).symm.trans H; with_reducible exact H2_) | with_reducible exact H | (rw [hy265]; exact H) | exact H
 have Ny265 := Aside0.mk hy265
 clear hy265
 replace H := Option.bind_eq_some_iff.mp H
 obtain ⟨⟨t269, t270, t271, t272⟩, A20, H⟩ := H
 (try dsimp only at H)
 have A2 := Aside0.mk A20
 clear A20
 replace H := Option.bind_eq_some_iff.mp H
 obtain ⟨⟨t274, t275, t276, t277⟩, A30, H⟩ := H
 (try dsimp only at H)
 have A3 := Aside0.mk A30
 clear A30
 by_cases c4 : t262 = 9223372036854775808
 ·rw [if_pos c4] at H
  have c4b0 : (t262 == 9223372036854775808) = true := beq_iff_eq.mpr c4
  have c4b1 : (t262 != 9223372036854775808) = false := bne_eq_false_iff_eq.mpr c4
  clear c4
  by_cases c5 : t263 = (-63)
  ·rw [if_pos c5] at H
   have c5b0 : (t263 == (-63)) = true := beq_iff_eq.mpr c5
   have c5b1 : (t263 != (-63)) = false := bne_eq_false_iff_eq.mpr c5
   clear c5
   by_cases c6 : t260 = 1
   ·rw [if_pos c6] at H
    have c6b0 : (t260 == 1) = true := beq_iff_eq.mpr c6
    have c6b1 : (t260 != 1) = false := bne_eq_false_iff_eq.mpr c6
    clear c6
    by_cases c7 : t271 = 9223372036854775808
    ·rw [if_pos c7] at H
     have c7b0 : (t271 == 9223372036854775808) = true := beq_iff_eq.mpr c7
     have c7b1 : (t271 != 9223372036854775808) = false := bne_eq_false_iff_eq.mpr c7
     clear c7
     by_cases c8 : t272 = 1
     ·rw [if_pos c8] at H
      have c8b0 : (t272 == 1) = true := beq_iff_eq.mpr c8
      have c8b1 : (t272 != 1) = false := bne_eq_false_iff_eq.mpr c8
      clear c8
      by_cases c9 : t276 = 9223372036854775809
      ·rw [if_pos c9] at H
       have c9b0 : (t276 == 9223372036854775809) = true := beq_iff_eq.mpr c9
       have c9b1 : (t276 != 9223372036854775809) = false := bne_eq_false_iff_eq.mpr c9
       clear c9
       obtain rfl := Option.some.inj H
       go_enter Tryd.func11, Tryd.ntmps11
       go_wp2_with (first | ((with_reducible refine gate_callee (f := 15) rfl ?_); refine gl_ (some 5) Tryd.func15 #[.int .i64 1] ?_; (with_reducible refine (num_Of.calls k 1 t260 t261 t262 t263 _ A1.out).mono ?_); rintro e w10 ⟨rfl, hb⟩; refine ⟨_, rfl, ?_⟩; replace HB := bq_ HB hb; (try clear hb); (try clear hb2); (try clear hk); (try clear hi)) | ((with_reducible refine gate_dst (N := 1) rfl ?_); refine bx_ 1 #[.int .i64 0, .bool false, .int .u64 0, .int .i64 0] 30 ?_; intro gb264 hg w11 hbox hb; have BK264 := Aside0.mk (hbox); have GW264 := ge_ hg HB; have GE264 := ge_ hg HB; replace HB := bq_ HB hb; clear hb hbox hg; obtain ⟨hcz12_0, hcz12_1, hcz12_2, hcz12_3, hfz12_0, hfz12_1, hfz12_2, hfz12_3⟩ := c4_ BK264) | ((with_reducible refine gate_dst (N := 6) rfl ?_); refine Kd.R_lit (Kd.int .u32) _ 53 ?hg (N := 6) ?hd (xs := ([1, 0, 1] : List Int)) (inner := [.int .u32 1, .int .u32 0, .int .u32 1]) (ok := fun _ => True) (okp := fun _ => True) ?hr ?hp (fun _ hk => hk) trivial (Below.refl _ _) (Nat.le_refl _) (by simp) ?_; (case hd => rfl); (case hg => rfl); (case hr => first | (go_simp; done) | (go_simp; rfl)); (case hp => exact (Reps.one (show Kd.M (Kd.int .u32) _ _ _ 1 [.int .u32 1] from rfl) (Reps.one (show Kd.M (Kd.int .u32) _ _ _ 0 [.int .u32 0] from rfl) (Reps.one (show Kd.M (Kd.int .u32) _ _ _ 1 [.int .u32 1] from rfl) (Reps.none _ _))))); intro v266 w13 ho14 hb hg_ hnew_; clear hg_ hnew_; (first | rw [← Ny265.out] at ho14 | (simp only [Int.reduceToNat] at ho14; rw [← Ny265.out] at ho14)); have n0_ := Aside0.mk (Kd.R_lower ho14 (below_size (bw_ HB.out))); have n1_ := Aside0.mk (blk_below (g := gb264) (o := .cells #[.int .i64 t260, .bool t261, .int .u64 t262, .int .i64 t263] 30 (0, 0)) (by refine kb_ ?_; refine bp_ #[.int .i64 t260, .bool t261, .int .u64 t262, .int .i64 0] 3 ?_; refine bp_ #[.int .i64 t260, .bool t261, .int .u64 0, .int .i64 0] 2 ?_; refine bp_ #[.int .i64 t260, .bool false, .int .u64 0, .int .i64 0] 1 ?_; refine bp_ #[.int .i64 0, .bool false, .int .u64 0, .int .i64 0] 0 ?_; exact BK264.out) hb); have n2_ := bq_ HB hb; clear BK264; clear HB; have HO267 := n0_; have BK264 := n1_; have HB := n2_; clear n0_ n1_ n2_; clear hb ho14; obtain ⟨Ao15, co15, eo15⟩ := Kd.R_slice HO267.out; subst eo15) | ((with_reducible refine gate_dst (N := 2) rfl ?_); refine bx_ 2 #[.bool false, .slice none 0 0, .int .i64 0] 26 ?_; intro gb268 hg w16 hbox hb; have BK268 := Aside0.mk (hbox); have GW268 := ge_ hg HB; have GE268 := ge_ hg HB; have NB264_268 := nb_ hg BK264; have NB268_264 := nc_ hg BK264; replace HO267 := Aside0.mk (Kd.R_below (kr_ HO267.out) hb); replace BK264 := kq_ BK264 hb; replace HB := bq_ HB hb; clear hb hbox hg; have hnb17 := NB268_264.out; have hnc17 := NB264_268.out; obtain ⟨hcz18_0, hcz18_1, hcz18_2, hfz18_0, hfz18_1, hfz18_2⟩ := c3_ BK268) | ((with_reducible refine gate_callee (f := 12) rfl ?_); refine gl_ (some 10) Tryd.func12 #[.agg #[.bool false, .slice Ao15 y265.length co15, .int .i64 0], .bool false] ?_; (with_reducible refine (num_Round.calls k false _ _ y265 0 false t269 t270 t271 t272 _ ?side1 ?side2 A2.out ?sidet).mono ?_); (case sidet => exact Kd.C_below HTAB.out (bw_ HB.out)); (case side1 => refine (Kd.R_reads' (e := 53) (base := w.heap.size) (ok := fun k_ => True) (n := y265.length) (c := co15) ?_).2.2; exact (kr_ ((Kd.R_mono (Kd.R_far (p := ⟨gb268, 2, none⟩) (Kd.R_far (p := ⟨gb268, 1, none⟩) (Kd.R_far (p := ⟨gb268, 0, none⟩) (Kd.R_types HO267.out BK268.out (by decide)) (fun _ hk => hk.2) (.bool false)) (fun _ hk => hk.2) (.slice Ao15 y265.length co15)) (fun _ hk => hk.2) (.int .i64 0)) (fun _ h_ => h_.1))))); (case side2 => exact (Kd.R_reads' HO267.out).2.1); rintro e w19 ⟨rfl, hb⟩; refine ⟨_, rfl, ?_⟩; have n0_ := Aside0.mk (Kd.R_below (kr_ ((Kd.R_mono (Kd.R_far (p := ⟨gb268, 2, none⟩) (Kd.R_far (p := ⟨gb268, 1, none⟩) (Kd.R_far (p := ⟨gb268, 0, none⟩) (Kd.R_types HO267.out BK268.out (by decide)) (fun _ hk => hk.2) (.bool false)) (fun _ hk => hk.2) (.slice Ao15 y265.length co15)) (fun _ hk => hk.2) (.int .i64 0)) (fun _ h_ => h_.1)))) hb); have n1_ := Aside0.mk (blk_below (g := gb264) (o := .cells #[.int .i64 t260, .bool t261, .int .u64 t262, .int .i64 t263] 30 (0, 0)) (by refine kb_ ?_; refine bf_ NB264_268 ?_; refine bf_ NB264_268 ?_; refine bf_ NB264_268 ?_; exact BK264.out) hb); have n2_ := Aside0.mk (blk_below (g := gb268) (o := .cells #[.bool false, .slice Ao15 y265.length co15, .int .i64 0] 26 (0, 0)) (by refine kb_ ?_; refine bp_ #[.bool false, .slice Ao15 y265.length co15, .int .i64 0] 2 ?_; refine bp_ #[.bool false, .slice none 0 0, .int .i64 0] 1 ?_; refine bp_ #[.bool false, .slice none 0 0, .int .i64 0] 0 ?_; exact BK268.out) hb); have n3_ := bq_ HB hb; clear HO267; clear BK264; clear BK268; clear HB; have HO267 := n0_; have BK264 := n1_; have BK268 := n2_; have HB := n3_; clear n0_ n1_ n2_ n3_; (try clear hb); (try clear hb2); (try clear hk); (try clear hi)) | ((with_reducible refine gate_dst (N := 3) rfl ?_); refine bx_ 3 #[.int .i64 0, .bool false, .int .u64 0, .int .i64 0] 30 ?_; intro gb273 hg w20 hbox hb; have BK273 := Aside0.mk (hbox); have GW273 := ge_ hg HB; have GE273 := ge_ hg HB; have NB264_273 := nb_ hg BK264; have NB273_264 := nc_ hg BK264; have NB268_273 := nb_ hg BK268; have NB273_268 := nc_ hg BK268; replace HO267 := Aside0.mk (Kd.R_below (kr_ HO267.out) hb); replace BK264 := kq_ BK264 hb; replace BK268 := kq_ BK268 hb; replace HB := bq_ HB hb; clear hb hbox hg; have hnb21 := NB273_264.out; have hnc21 := NB264_273.out; have hnb22 := NB273_268.out; have hnc22 := NB268_273.out; obtain ⟨hcz23_0, hcz23_1, hcz23_2, hcz23_3, hfz23_0, hfz23_1, hfz23_2, hfz23_3⟩ := c4_ BK273; obtain ⟨hcz24_0, hcz24_1, hcz24_2, hfz24_0, hfz24_1, hfz24_2⟩ := c3_ BK268) | ((with_reducible refine gate_callee (f := 12) rfl ?_); refine gl_ (some 12) Tryd.func12 #[.agg #[.bool false, .slice Ao15 y265.length co15, .int .i64 0], .bool true] ?_; (with_reducible refine (num_Round.calls k false _ _ y265 0 true t274 t275 t276 t277 _ ?side1 ?side2 A3.out ?sidet).mono ?_); (case sidet => exact Kd.C_below HTAB.out (bw_ HB.out)); (case side1 => refine (Kd.R_reads' (e := 53) (base := w.heap.size) (ok := fun k_ => True) (n := y265.length) (c := co15) ?_).2.2; exact (kr_ ((Kd.R_mono (Kd.R_far (p := ⟨gb273, 3, none⟩) (Kd.R_far (p := ⟨gb273, 2, none⟩) (Kd.R_far (p := ⟨gb273, 1, none⟩) (Kd.R_far (p := ⟨gb273, 0, none⟩) (Kd.R_types HO267.out BK273.out (by decide)) (fun _ hk => hk.2) (.int .i64 t269)) (fun _ hk => hk.2) (.bool t270)) (fun _ hk => hk.2) (.int .u64 t271)) (fun _ hk => hk.2) (.int .i64 t272)) (fun _ h_ => h_.1))))); (case side2 => exact (Kd.R_reads' HO267.out).2.1); rintro e w25 ⟨rfl, hb⟩; refine ⟨_, rfl, ?_⟩; have n0_ := Aside0.mk (Kd.R_below (kr_ ((Kd.R_mono (Kd.R_far (p := ⟨gb273, 3, none⟩) (Kd.R_far (p := ⟨gb273, 2, none⟩) (Kd.R_far (p := ⟨gb273, 1, none⟩) (Kd.R_far (p := ⟨gb273, 0, none⟩) (Kd.R_types HO267.out BK273.out (by decide)) (fun _ hk => hk.2) (.int .i64 t269)) (fun _ hk => hk.2) (.bool t270)) (fun _ hk => hk.2) (.int .u64 t271)) (fun _ hk => hk.2) (.int .i64 t272)) (fun _ h_ => h_.1)))) hb); have n1_ := Aside0.mk (blk_below (g := gb264) (o := .cells #[.int .i64 t260, .bool t261, .int .u64 t262, .int .i64 t263] 30 (0, 0)) (by refine kb_ ?_; refine bf_ NB264_273 ?_; refine bf_ NB264_273 ?_; refine bf_ NB264_273 ?_; refine bf_ NB264_273 ?_; exact BK264.out) hb); have n2_ := Aside0.mk (blk_below (g := gb268) (o := .cells #[.bool false, .slice Ao15 y265.length co15, .int .i64 0] 26 (0, 0)) (by refine kb_ ?_; refine bf_ NB268_273 ?_; refine bf_ NB268_273 ?_; refine bf_ NB268_273 ?_; refine bf_ NB268_273 ?_; exact BK268.out) hb); have n3_ := Aside0.mk (blk_below (g := gb273) (o := .cells #[.int .i64 t269, .bool t270, .int .u64 t271, .int .i64 t272] 30 (0, 0)) (by refine kb_ ?_; refine bp_ #[.int .i64 t269, .bool t270, .int .u64 t271, .int .i64 0] 3 ?_; refine bp_ #[.int .i64 t269, .bool t270, .int .u64 0, .int .i64 0] 2 ?_; refine bp_ #[.int .i64 t269, .bool false, .int .u64 0, .int .i64 0] 1 ?_; refine bp_ #[.int .i64 0, .bool false, .int .u64 0, .int .i64 0] 0 ?_; exact BK273.out) hb); have n4_ := bq_ HB hb; clear HO267; clear BK264; clear BK268; clear BK273; clear HB; have HO267 := n0_; have BK264 := n1_; have BK268 := n2_; have BK273 := n3_; have HB := n4_; clear n0_ n1_ n2_ n3_ n4_; (try clear hb); (try clear hb2); (try clear hk); (try clear hi)) | ((with_reducible refine gate_dst (N := 4) rfl ?_); refine bx_ 4 #[.int .i64 0, .bool false, .int .u64 0, .int .i64 0] 30 ?_; intro gb278 hg w26 hbox hb; have BK278 := Aside0.mk (hbox); have GW278 := ge_ hg HB; have GE278 := ge_ hg HB; have NB264_278 := nb_ hg BK264; have NB278_264 := nc_ hg BK264; have NB268_278 := nb_ hg BK268; have NB278_268 := nc_ hg BK268; have NB273_278 := nb_ hg BK273; have NB278_273 := nc_ hg BK273; replace HO267 := Aside0.mk (Kd.R_below (kr_ HO267.out) hb); replace BK264 := kq_ BK264 hb; replace BK268 := kq_ BK268 hb; replace BK273 := kq_ BK273 hb; replace HB := bq_ HB hb; clear hb hbox hg; have hnb27 := NB278_264.out; have hnc27 := NB264_278.out; have hnb28 := NB278_268.out; have hnc28 := NB268_278.out; have hnb29 := NB278_273.out; have hnc29 := NB273_278.out; obtain ⟨hcz30_0, hcz30_1, hcz30_2, hcz30_3, hfz30_0, hfz30_1, hfz30_2, hfz30_3⟩ := c4_ BK278; obtain ⟨hcz31_0, hcz31_1, hcz31_2, hcz31_3, hfz31_0, hfz31_1, hfz31_2, hfz31_3⟩ := c4_ BK264; obtain ⟨hcz32_0, hcz32_1, hcz32_2, hcz32_3, hfz32_0, hfz32_1, hfz32_2, hfz32_3⟩ := c4_ BK273))
       go_ret
       exact ⟨rf_, bw_ HB.out⟩
      ·rw [if_neg c9] at H
       have c9b0 : (t276 == 9223372036854775809) = false := beq_eq_false_iff_ne.mpr c9
       have c9b1 : (t276 != 9223372036854775809) = true := bne_iff_ne.mpr c9
       exact absurd ((Option.some.inj H).trans HRT_.out) (by simp)
     ·rw [if_neg c8] at H
      have c8b0 : (t272 == 1) = false := beq_eq_false_iff_ne.mpr c8
      have c8b1 : (t272 != 1) = true := bne_iff_ne.mpr c8
      exact absurd ((Option.some.inj H).trans HRT_.out) (by simp)
    ·rw [if_neg c7] at H
     have c7b0 : (t271 == 9223372036854775808) = false := beq_eq_false_iff_ne.mpr c7
     have c7b1 : (t271 != 9223372036854775808) = true := bne_iff_ne.mpr c7
     exact absurd ((Option.some.inj H).trans HRT_.out) (by simp)
   ·rw [if_neg c6] at H
    have c6b0 : (t260 == 1) = false := beq_eq_false_iff_ne.mpr c6
    have c6b1 : (t260 != 1) = true := bne_iff_ne.mpr c6
    exact absurd ((Option.some.inj H).trans HRT_.out) (by simp)
  ·rw [if_neg c5] at H
   have c5b0 : (t263 == (-63)) = false := beq_eq_false_iff_ne.mpr c5
   have c5b1 : (t263 != (-63)) = true := bne_iff_ne.mpr c5
   exact absurd ((Option.some.inj H).trans HRT_.out) (by simp)
 ·rw [if_neg c4] at H
  have c4b0 : (t262 == 9223372036854775808) = false := beq_eq_false_iff_ne.mpr c4
  have c4b1 : (t262 != 9223372036854775808) = true := bne_iff_ne.mpr c4
  exact absurd ((Option.some.inj H).trans HRT_.out) (by simp)

end Go.Proofs.YtkemnoejpbknhaaDoor.PA
