-- Laid by this work's own program; Lean checks it.
import Derived.Test.YtkemnoejpbknhaaDoorPAx0
import Derived.Test.YtkemnoejpbknhaaDoorPAx1
import Derived.Test.YtkemnoejpbknhaaDoorPAx2
import Derived.Test.YtkemnoejpbknhaaDoorPAx4
import Derived.Test.YtkemnoejpbknhaaDoorPAx7
import Derived.Test.YtkemnoejpbknhaaDoorPAx9
import Derived.Test.YtkemnoejpbknhaaDoorPAx10
import Derived.Test.YtkemnoejpbknhaaDoorPAx11
import Derived.Test.YtkemnoejpbknhaaDoorPAx13
import Derived.Test.YtkemnoejpbknhaaDoorPAx14
import Derived.Test.YtkemnoejpbknhaaDoorPAx15
import Derived.Test.YtkemnoejpbknhaaDoorPAx19
import Derived.Test.YtkemnoejpbknhaaDoorPAx25
import Derived.Test.YtkemnoejpbknhaaDoorPAx26
namespace Go.Proofs.YtkemnoejpbknhaaDoor.PA
open Go.RowKit Go.Proofs.YtkemnoejpbknhaaDoorW.PrintWords Go.Proofs.YtkemnoejpbknhaaDoorW.PrintLast Go.Proofs.YtkemnoejpbknhaaDoorW.PrintMore
attribute [local go_sem] max2_int min2_int max_two min_two max_three min_three max_four min_four   -- for this text's walks alone
set_option linter.unusedVariables false
set_option linter.unusedSimpArgs false

attribute [local go_sem ↓ high] isSome_set_
attribute [local go_sem high] eqA30
/-! ### peloruslaw05_NumTells: function 8 -/
theorem peloruslaw05_NumTells.tab5 : rtab .any (opsOf Tryd.f8 5) = peloruslaw05_NumTells.T5 := by kernel_rfl
theorem peloruslaw05_NumTells.bits5 : waitsOk peloruslaw05_NumTells.T5.2 peloruslaw05_NumTells.B5 = true := by kernel_rfl
set_option maxHeartbeats 8000000 in
set_option maxRecDepth 100000 in
theorem peloruslaw05_NumTells.calls (k : Nat) (a0_0 : Int) (a0_1 : Bool) (a0_2 : Int) (a0_3 : Int) (a1_0 : Int) (a1_1 : Bool) (a1_2 : Int) (a1_3 : Int) (a2 : Bool) (r : Bool) (w : World) (hr_ : r = true) (haw_ : ∀ r, peloruslaw05_awake.f k = some r → r = true) (h : peloruslaw05_NumTells.f k a0_0 a0_1 a0_2 a0_3 a1_0 a1_1 a1_2 a1_3 a2 = some r) (htab_ : Kd.C (Kd.int .u8) w (some ⟨0, 0, none⟩) 32 tz32tab) :
  Calls Tryd.prog 8 #[.agg #[.int .i64 a0_0, .bool a0_1, .int .u64 a0_2, .int .i64 a0_3], .agg #[.int .i64 a1_0, .bool a1_1, .int .u64 a1_2, .int .i64 a1_3], .bool a2] w fun e w' => e = .returned (.bool r) ∧ Below w.heap.size w w' := by
 have HTAB := Aside0.mk htab_
 clear htab_
 have HRT_ := Aside0.mk hr_
 clear hr_
 have HAW_ := Aside0.mk haw_
 clear haw_
 have hu30 := Tryd.underlying30
 have hu26 := Tryd.underlying26
 have HB := Aside0.mk (Below.refl w.heap.size w)
 have H : ((peloruslaw05_awake.f k).bind fun t880 => ((num_Exact.f k a0_0 a0_1 a0_2 a0_3).bind fun bt881 => ((pelorusref05_Exact.f k a0_0 a0_1 a0_2 a0_3).bind fun bt888 => ((pelorusref03_Alike.f k bt881.1 bt881.2.1 bt881.2.2.1 bt888.1 bt888.2.1 bt888.2.2.1).bind fun t895 => (if t880 = true then (if t895 = true then (if (bt881.2.2.2 == bt888.2.2.2) = true then ((num_May.f a0_0 a0_1 a0_2 a0_3).bind fun t896 => ((pelorusref05_May.f a0_0 a0_1 a0_2 a0_3).bind fun t897 => (if (t896 == t897) = true then ((num_Sign.f a0_0 a0_1 a0_2 a0_3).bind fun t898 => ((pelorusref05_Sign.f a0_0 a0_1 a0_2 a0_3).bind fun t899 => (if t898 = t899 then ((num_Neg.f a0_0 a0_1 a0_2 a0_3).bind fun bt900 => ((pelorusref05_Neg.f a0_0 a0_1 a0_2 a0_3).bind fun bt904 => (if (bt900.1 == bt904.1 && (bt900.2.1 == bt904.2.1 && (bt900.2.2.1 == bt904.2.2.1 && (bt900.2.2.2 == bt904.2.2.2)))) = true then ((num_Next.f k a0_0 a0_1 a0_2 a0_3 a2).bind fun bt908 => ((pelorusref05_Next.f a0_0 a0_1 a0_2 a0_3 a2).bind fun bt912 => (if (bt908.1 == bt912.1 && (bt908.2.1 == bt912.2.1 && (bt908.2.2.1 == bt912.2.2.1 && (bt908.2.2.2 == bt912.2.2.2)))) = true then ((num_Cmp.f a0_0 a0_1 a0_2 a0_3 a1_0 a1_1 a1_2 a1_3).bind fun t916 => ((pelorusref05_Cmp.f k a0_0 a0_1 a0_2 a0_3 a1_0 a1_1 a1_2 a1_3).bind fun t917 => (if t916 = t917 then ((num_Infinite.f a2).bind fun bt918 => ((pelorusref05_Infinite.f a2).bind fun bt922 => (some (bt918.1 == bt922.1 && (bt918.2.1 == bt922.2.1 && (bt918.2.2.1 == bt922.2.2.1 && (bt918.2.2.2 == bt922.2.2.2))))))) else (some false)))) else (some false)))) else (some false)))) else (some false)))) else (some false)))) else (some false)) else (some false)) else (some false)))))) = some r := h
 clear h
 replace H := Option.bind_eq_some_iff.mp H
 obtain ⟨t880, A40, H⟩ := H
 (try dsimp only at H)
 have A4 := Aside0.mk A40
 clear A40
 replace H := Option.bind_eq_some_iff.mp H
 obtain ⟨⟨t881, t882, t885, t886⟩, A50, H⟩ := H
 (try dsimp only at H)
 have A5 := Aside0.mk A50
 clear A50
 replace H := Option.bind_eq_some_iff.mp H
 obtain ⟨⟨t888, t889, t892, t893⟩, A60, H⟩ := H
 (try dsimp only at H)
 have A6 := Aside0.mk A60
 clear A60
 replace H := Option.bind_eq_some_iff.mp H
 obtain ⟨t895, A70, H⟩ := H
 (try dsimp only at H)
 have A7 := Aside0.mk A70
 clear A70
 by_cases c8 : t880 = true
 ·subst c8
  have H1 : (if t895 = true then (if (t886 == t893) = true then ((num_May.f a0_0 a0_1 a0_2 a0_3).bind fun t896 => ((pelorusref05_May.f a0_0 a0_1 a0_2 a0_3).bind fun t897 => (if (t896 == t897) = true then ((num_Sign.f a0_0 a0_1 a0_2 a0_3).bind fun t898 => ((pelorusref05_Sign.f a0_0 a0_1 a0_2 a0_3).bind fun t899 => (if t898 = t899 then ((num_Neg.f a0_0 a0_1 a0_2 a0_3).bind fun bt900 => ((pelorusref05_Neg.f a0_0 a0_1 a0_2 a0_3).bind fun bt904 => (if (bt900.1 == bt904.1 && (bt900.2.1 == bt904.2.1 && (bt900.2.2.1 == bt904.2.2.1 && (bt900.2.2.2 == bt904.2.2.2)))) = true then ((num_Next.f k a0_0 a0_1 a0_2 a0_3 a2).bind fun bt908 => ((pelorusref05_Next.f a0_0 a0_1 a0_2 a0_3 a2).bind fun bt912 => (if (bt908.1 == bt912.1 && (bt908.2.1 == bt912.2.1 && (bt908.2.2.1 == bt912.2.2.1 && (bt908.2.2.2 == bt912.2.2.2)))) = true then ((num_Cmp.f a0_0 a0_1 a0_2 a0_3 a1_0 a1_1 a1_2 a1_3).bind fun t916 => ((pelorusref05_Cmp.f k a0_0 a0_1 a0_2 a0_3 a1_0 a1_1 a1_2 a1_3).bind fun t917 => (if t916 = t917 then ((num_Infinite.f a2).bind fun bt918 => ((pelorusref05_Infinite.f a2).bind fun bt922 => (some (bt918.1 == bt922.1 && (bt918.2.1 == bt922.2.1 && (bt918.2.2.1 == bt922.2.2.1 && (bt918.2.2.2 == bt922.2.2.2))))))) else (some false)))) else (some false)))) else (some false)))) else (some false)))) else (some false)))) else (some false)) else (some false)) = some r := by rw [if_pos rfl] at H; exact H
  clear H
  have H := H1
  clear H1
  by_cases c9 : t895 = true
  ·subst c9
   have H1 : (if (t886 == t893) = true then ((num_May.f a0_0 a0_1 a0_2 a0_3).bind fun t896 => ((pelorusref05_May.f a0_0 a0_1 a0_2 a0_3).bind fun t897 => (if (t896 == t897) = true then ((num_Sign.f a0_0 a0_1 a0_2 a0_3).bind fun t898 => ((pelorusref05_Sign.f a0_0 a0_1 a0_2 a0_3).bind fun t899 => (if t898 = t899 then ((num_Neg.f a0_0 a0_1 a0_2 a0_3).bind fun bt900 => ((pelorusref05_Neg.f a0_0 a0_1 a0_2 a0_3).bind fun bt904 => (if (bt900.1 == bt904.1 && (bt900.2.1 == bt904.2.1 && (bt900.2.2.1 == bt904.2.2.1 && (bt900.2.2.2 == bt904.2.2.2)))) = true then ((num_Next.f k a0_0 a0_1 a0_2 a0_3 a2).bind fun bt908 => ((pelorusref05_Next.f a0_0 a0_1 a0_2 a0_3 a2).bind fun bt912 => (if (bt908.1 == bt912.1 && (bt908.2.1 == bt912.2.1 && (bt908.2.2.1 == bt912.2.2.1 && (bt908.2.2.2 == bt912.2.2.2)))) = true then ((num_Cmp.f a0_0 a0_1 a0_2 a0_3 a1_0 a1_1 a1_2 a1_3).bind fun t916 => ((pelorusref05_Cmp.f k a0_0 a0_1 a0_2 a0_3 a1_0 a1_1 a1_2 a1_3).bind fun t917 => (if t916 = t917 then ((num_Infinite.f a2).bind fun bt918 => ((pelorusref05_Infinite.f a2).bind fun bt922 => (some (bt918.1 == bt922.1 && (bt918.2.1 == bt922.2.1 && (bt918.2.2.1 == bt922.2.2.1 && (bt918.2.2.2 == bt922.2.2.2))))))) else (some false)))) else (some false)))) else (some false)))) else (some false)))) else (some false)))) else (some false)) = some r := by rw [if_pos rfl] at H; exact H
   clear H
   have H := H1
   clear H1
   by_cases c10 : (t886 == t893) = true
   ·rw [if_pos c10] at H
    have c10b0 : (t886 == t893) = true := c10
    (try (have c10b1 : decide (t886 = t893) = true := by simpa using c10))
    (try (have c10b2 : (t886 == t893) = true := by simpa using c10))
    clear c10
    replace H := Option.bind_eq_some_iff.mp H
    obtain ⟨t896, A110, H⟩ := H
    (try dsimp only at H)
    have A11 := Aside0.mk A110
    clear A110
    replace H := Option.bind_eq_some_iff.mp H
    obtain ⟨t897, A120, H⟩ := H
    (try dsimp only at H)
    have A12 := Aside0.mk A120
    clear A120
    by_cases c13 : (t896 == t897) = true
    ·rw [if_pos c13] at H
     have c13b0 : (t896 == t897) = true := c13
     (try (have c13b1 : decide (t896 = t897) = true := by simpa using c13))
     (try (have c13b2 : (t896 == t897) = true := by simpa using c13))
     clear c13
     replace H := Option.bind_eq_some_iff.mp H
     obtain ⟨t898, A140, H⟩ := H
     (try dsimp only at H)
     have A14 := Aside0.mk A140
     clear A140
     replace H := Option.bind_eq_some_iff.mp H
     obtain ⟨t899, A150, H⟩ := H
     (try dsimp only at H)
     have A15 := Aside0.mk A150
     clear A150
     by_cases c16 : t898 = t899
     ·rw [if_pos c16] at H
      have c16b0 : (t898 == t899) = true := beq_iff_eq.mpr c16
      have c16b1 : (t898 != t899) = false := bne_eq_false_iff_eq.mpr c16
      clear c16
      replace H := Option.bind_eq_some_iff.mp H
      obtain ⟨⟨t900, t901, t902, t903⟩, A170, H⟩ := H
      (try dsimp only at H)
      have A17 := Aside0.mk A170
      clear A170
      replace H := Option.bind_eq_some_iff.mp H
      obtain ⟨⟨t904, t905, t906, t907⟩, A180, H⟩ := H
      (try dsimp only at H)
      have A18 := Aside0.mk A180
      clear A180
      by_cases c19 : (t900 == t904 && (t901 == t905 && (t902 == t906 && (t903 == t907)))) = true
      ·rw [if_pos c19] at H
       have c19b0 : (t900 == t904 && (t901 == t905 && (t902 == t906 && (t903 == t907)))) = true := c19
       (try (have c19b1 : decide (t900 = t904 && (t901 == t905 && (t902 == t906 && (t903 == t907)))) = true := by simpa using c19))
       (try (have c19b2 : (t900 == t904 && (t901 == t905 && (t902 == t906 && (t903 == t907)))) = true := by simpa using c19))
       clear c19
       replace H := Option.bind_eq_some_iff.mp H
       obtain ⟨⟨t908, t909, t910, t911⟩, A200, H⟩ := H
       (try dsimp only at H)
       have A20 := Aside0.mk A200
       clear A200
       replace H := Option.bind_eq_some_iff.mp H
       obtain ⟨⟨t912, t913, t914, t915⟩, A210, H⟩ := H
       (try dsimp only at H)
       have A21 := Aside0.mk A210
       clear A210
       by_cases c22 : (t908 == t912 && (t909 == t913 && (t910 == t914 && (t911 == t915)))) = true
       ·rw [if_pos c22] at H
        have c22b0 : (t908 == t912 && (t909 == t913 && (t910 == t914 && (t911 == t915)))) = true := c22
        (try (have c22b1 : decide (t908 = t912 && (t909 == t913 && (t910 == t914 && (t911 == t915)))) = true := by simpa using c22))
        (try (have c22b2 : (t908 == t912 && (t909 == t913 && (t910 == t914 && (t911 == t915)))) = true := by simpa using c22))
        clear c22
        replace H := Option.bind_eq_some_iff.mp H
        obtain ⟨t916, A230, H⟩ := H
        (try dsimp only at H)
        have A23 := Aside0.mk A230
        clear A230
        replace H := Option.bind_eq_some_iff.mp H
        obtain ⟨t917, A240, H⟩ := H
        (try dsimp only at H)
        have A24 := Aside0.mk A240
        clear A240
        by_cases c25 : t916 = t917
        ·rw [if_pos c25] at H
         have c25b0 : (t916 == t917) = true := beq_iff_eq.mpr c25
         have c25b1 : (t916 != t917) = false := bne_eq_false_iff_eq.mpr c25
         clear c25
         replace H := Option.bind_eq_some_iff.mp H
         obtain ⟨⟨t918, t919, t920, t921⟩, A260, H⟩ := H
         (try dsimp only at H)
         have A26 := Aside0.mk A260
         clear A260
         replace H := Option.bind_eq_some_iff.mp H
         obtain ⟨⟨t922, t923, t924, t925⟩, A270, H⟩ := H
         (try dsimp only at H)
         have A27 := Aside0.mk A270
         clear A270
         obtain rfl := Option.some.inj H
         go_enter Tryd.func8, Tryd.ntmps8
         try go_wp2_with (first | ((with_reducible refine gate_dst (N := 3) rfl ?_); refine bx_ 3 #[.int .i64 a0_0, .bool a0_1, .int .u64 a0_2, .int .i64 a0_3] 30 ?_; intro gb878 hg w28 hbox hb; have BK878 := Aside0.mk (hbox); have GW878 := ge_ hg HB; have GE878 := ge_ hg HB; replace HB := bq_ HB hb; clear hb hbox hg) | ((with_reducible refine gate_dst (N := 4) rfl ?_); refine bx_ 4 #[.int .i64 a1_0, .bool a1_1, .int .u64 a1_2, .int .i64 a1_3] 30 ?_; intro gb879 hg w29 hbox hb; have BK879 := Aside0.mk (hbox); have GW879 := ge_ hg HB; have GE879 := ge_ hg HB; have NB878_879 := nb_ hg BK878; have NB879_878 := nc_ hg BK878; replace BK878 := kq_ BK878 hb; replace HB := bq_ HB hb; clear hb hbox hg) | ((with_reducible refine gate_callee (f := 11) rfl ?_); refine gl_ (some 13) Tryd.func11 #[] ?_; (with_reducible refine (peloruslaw05_awake.calls k  true _ (HAW_.out _ A4.out) A4.out ?sidet).mono ?_); (case sidet => exact Kd.C_below HTAB.out (bw_ HB.out)); rintro e w30 ⟨rfl, hb⟩; refine ⟨_, rfl, ?_⟩; replace BK878 := kq_ BK878 hb; replace BK879 := kq_ BK879 hb; replace HB := bq_ HB hb; (try clear hb); (try clear hb2); (try clear hk); (try clear hi); have hnb31 := NB878_879.out; have hnc31 := NB879_878.out; obtain ⟨hcz32_0, hcz32_1, hcz32_2, hcz32_3, hfz32_0, hfz32_1, hfz32_2, hfz32_3⟩ := c4_ BK878) | ((with_reducible refine gate_callee (f := 25) rfl ?_); refine gl_ (some 16) Tryd.func25 #[.agg #[.int .i64 a0_0, .bool a0_1, .int .u64 a0_2, .int .i64 a0_3]] ?_; (with_reducible refine (num_Exact.calls k a0_0 a0_1 a0_2 a0_3 t881 t882 t885 t886 _ A5.out ?sidet).mono ?_); (case sidet => exact Kd.C_below HTAB.out (bw_ HB.out)); rintro e w33 ⟨v883, rfl, ho0, hb⟩; refine ⟨_, rfl, ?_⟩; have HO884 := Aside0.mk (Kd.R_lower ho0 (below_size (bw_ HB.out))); replace BK878 := kq_ BK878 hb; replace BK879 := kq_ BK879 hb; replace HB := bq_ HB hb; (try clear hb); (try clear hb2); (try clear hk); (try clear hi); (try clear ho0)) | ((with_reducible refine gate_dst (N := 8) rfl ?_); refine bx_ 8 #[.bool false, .slice none 0 0, .int .i64 0] 26 ?_; intro gb887 hg w34 hbox hb; have BK887 := Aside0.mk (hbox); have GW887 := ge_ hg HB; have GE887 := ge_ hg HB; have NB878_887 := nb_ hg BK878; have NB887_878 := nc_ hg BK878; have NB879_887 := nb_ hg BK879; have NB887_879 := nc_ hg BK879; replace HO884 := Aside0.mk (Kd.R_below (kr_ HO884.out) hb); replace BK878 := kq_ BK878 hb; replace BK879 := kq_ BK879 hb; replace HB := bq_ HB hb; clear hb hbox hg; have hnb35 := NB887_878.out; have hnc35 := NB878_887.out; have hnb36 := NB887_879.out; have hnc36 := NB879_887.out; obtain ⟨hcz37_0, hcz37_1, hcz37_2, hfz37_0, hfz37_1, hfz37_2⟩ := c3_ BK887; obtain ⟨Ao38, co38, eo38⟩ := Kd.R_slice HO884.out; subst eo38; obtain ⟨hcz39_0, hcz39_1, hcz39_2, hcz39_3, hfz39_0, hfz39_1, hfz39_2, hfz39_3⟩ := c4_ BK878) | ((with_reducible refine gate_callee (f := 26) rfl ?_); refine gl_ (some 21) Tryd.func26 #[.agg #[.int .i64 a0_0, .bool a0_1, .int .u64 a0_2, .int .i64 a0_3]] ?_; (with_reducible refine (pelorusref05_Exact.calls k a0_0 a0_1 a0_2 a0_3 t888 t889 t892 t893 _ A6.out).mono ?_); rintro e w40 ⟨v890, rfl, ho0, hb⟩; refine ⟨_, rfl, ?_⟩; have n0_ := Aside0.mk (Kd.R_elder' (kr_ ((Kd.R_mono (Kd.R_far (p := ⟨gb887, 2, none⟩) (Kd.R_far (p := ⟨gb887, 1, none⟩) (Kd.R_far (p := ⟨gb887, 0, none⟩) (Kd.R_types HO884.out BK887.out (by decide)) (fun _ hk => hk.2) (.bool t881)) (fun _ hk => hk.2) (.slice Ao38 t882.length co38)) (fun _ hk => hk.2) (.int .i64 t885)) (fun _ h_ => h_.1)))) (Kd.R_base ho0) hb); have n1_ := Aside0.mk (Kd.R_lower (Kd.R_new' ho0 (Kd.R_lt (kr_ ((Kd.R_mono (Kd.R_far (p := ⟨gb887, 2, none⟩) (Kd.R_far (p := ⟨gb887, 1, none⟩) (Kd.R_far (p := ⟨gb887, 0, none⟩) (Kd.R_types HO884.out BK887.out (by decide)) (fun _ hk => hk.2) (.bool t881)) (fun _ hk => hk.2) (.slice Ao38 t882.length co38)) (fun _ hk => hk.2) (.int .i64 t885)) (fun _ h_ => h_.1)))))) (below_size (bw_ HB.out))); have n2_ := Aside0.mk (blk_below (g := gb878) (o := .cells #[.int .i64 a0_0, .bool a0_1, .int .u64 a0_2, .int .i64 a0_3] 30 (0, 0)) (by refine kb_ ?_; refine bf_ NB878_887 ?_; refine bf_ NB878_887 ?_; refine bf_ NB878_887 ?_; exact BK878.out) hb); have n3_ := Aside0.mk (blk_below (g := gb879) (o := .cells #[.int .i64 a1_0, .bool a1_1, .int .u64 a1_2, .int .i64 a1_3] 30 (0, 0)) (by refine kb_ ?_; refine bf_ NB879_887 ?_; refine bf_ NB879_887 ?_; refine bf_ NB879_887 ?_; exact BK879.out) hb); have n4_ := Aside0.mk (blk_below (g := gb887) (o := .cells #[.bool t881, .slice Ao38 t882.length co38, .int .i64 t885] 26 (0, 0)) (by refine kb_ ?_; refine bp_ #[.bool t881, .slice Ao38 t882.length co38, .int .i64 0] 2 ?_; refine bp_ #[.bool t881, .slice none 0 0, .int .i64 0] 1 ?_; refine bp_ #[.bool false, .slice none 0 0, .int .i64 0] 0 ?_; exact BK887.out) hb); have n5_ := bq_ HB hb; clear HO884; clear BK878; clear BK879; clear BK887; clear HB; have HO884 := n0_; have HO891 := n1_; have BK878 := n2_; have BK879 := n3_; have BK887 := n4_; have HB := n5_; clear n0_ n1_ n2_ n3_ n4_ n5_; (try clear hb); (try clear hb2); (try clear hk); (try clear hi); (try clear ho0)) | ((with_reducible refine gate_dst (N := 10) rfl ?_); refine bx_ 10 #[.bool false, .slice none 0 0, .int .i64 0] 26 ?_; intro gb894 hg w41 hbox hb; have BK894 := Aside0.mk (hbox); have GW894 := ge_ hg HB; have GE894 := ge_ hg HB; have NB878_894 := nb_ hg BK878; have NB894_878 := nc_ hg BK878; have NB879_894 := nb_ hg BK879; have NB894_879 := nc_ hg BK879; have NB887_894 := nb_ hg BK887; have NB894_887 := nc_ hg BK887; replace HO884 := Aside0.mk (Kd.R_below (kr_ HO884.out) hb); replace HO891 := Aside0.mk (Kd.R_below (kr_ HO891.out) hb); replace BK878 := kq_ BK878 hb; replace BK879 := kq_ BK879 hb; replace BK887 := kq_ BK887 hb; replace HB := bq_ HB hb; clear hb hbox hg; have hnb42 := NB894_878.out; have hnc42 := NB878_894.out; have hnb43 := NB894_879.out; have hnc43 := NB879_894.out; have hnb44 := NB894_887.out; have hnc44 := NB887_894.out; obtain ⟨hcz45_0, hcz45_1, hcz45_2, hfz45_0, hfz45_1, hfz45_2⟩ := c3_ BK894; obtain ⟨Ao46, co46, eo46⟩ := Kd.R_slice HO891.out; subst eo46; obtain ⟨hcz47_0, hcz47_1, hcz47_2, hfz47_0, hfz47_1, hfz47_2⟩ := c3_ BK887) | ((with_reducible refine gate_callee (f := 27) rfl ?_); refine gl_ (some 26) Tryd.func27 #[.agg #[.bool t881, .slice Ao38 t882.length co38, .int .i64 t885], .agg #[.bool t888, .slice Ao46 t889.length co46, .int .i64 t892]] ?_; (with_reducible refine (pelorusref03_Alike.calls k t881 _ _ t882 t885 t888 _ _ t889 t892 true _ ?side1 ?side2 ?side3 ?side4 A7.out).mono ?_); (case side1 => refine (Kd.R_reads' (e := 53) (base := w.heap.size) (ok := fun k_ => (True ∧ some k_ ≠ (.slice Ao46 t889.length co46 : Value).ownBlock)) (n := t882.length) (c := co38) ?_).2.2; exact (kr_ ((Kd.R_mono (Kd.R_far (p := ⟨gb894, 2, none⟩) (Kd.R_far (p := ⟨gb894, 1, none⟩) (Kd.R_far (p := ⟨gb894, 0, none⟩) (Kd.R_types HO884.out BK894.out (by decide)) (fun _ hk => hk.2) (.bool t888)) (fun _ hk => hk.2) (.slice Ao46 t889.length co46)) (fun _ hk => hk.2) (.int .i64 t892)) (fun _ h_ => h_.1))))); (case side2 => exact (Kd.R_reads' HO884.out).2.1); (case side3 => refine (Kd.R_reads' (e := 53) (base := w.heap.size) (ok := fun k_ => (True ∧ some k_ ≠ (.slice Ao38 t882.length co38 : Value).ownBlock)) (n := t889.length) (c := co46) ?_).2.2; exact (kr_ ((Kd.R_mono (Kd.R_far (p := ⟨gb894, 2, none⟩) (Kd.R_far (p := ⟨gb894, 1, none⟩) (Kd.R_far (p := ⟨gb894, 0, none⟩) (Kd.R_types HO891.out BK894.out (by decide)) (fun _ hk => hk.2) (.bool t888)) (fun _ hk => hk.2) (.slice Ao46 t889.length co46)) (fun _ hk => hk.2) (.int .i64 t892)) (fun _ h_ => h_.1))))); (case side4 => exact (Kd.R_reads' HO891.out).2.1); rintro e w48 ⟨rfl, hb⟩; refine ⟨_, rfl, ?_⟩; have n0_ := Aside0.mk (Kd.R_below (kr_ ((Kd.R_mono (Kd.R_far (p := ⟨gb894, 2, none⟩) (Kd.R_far (p := ⟨gb894, 1, none⟩) (Kd.R_far (p := ⟨gb894, 0, none⟩) (Kd.R_types HO884.out BK894.out (by decide)) (fun _ hk => hk.2) (.bool t888)) (fun _ hk => hk.2) (.slice Ao46 t889.length co46)) (fun _ hk => hk.2) (.int .i64 t892)) (fun _ h_ => h_.1)))) hb); have n1_ := Aside0.mk (Kd.R_below (kr_ ((Kd.R_mono (Kd.R_far (p := ⟨gb894, 2, none⟩) (Kd.R_far (p := ⟨gb894, 1, none⟩) (Kd.R_far (p := ⟨gb894, 0, none⟩) (Kd.R_types HO891.out BK894.out (by decide)) (fun _ hk => hk.2) (.bool t888)) (fun _ hk => hk.2) (.slice Ao46 t889.length co46)) (fun _ hk => hk.2) (.int .i64 t892)) (fun _ h_ => h_.1)))) hb); have n2_ := Aside0.mk (blk_below (g := gb878) (o := .cells #[.int .i64 a0_0, .bool a0_1, .int .u64 a0_2, .int .i64 a0_3] 30 (0, 0)) (by refine kb_ ?_; refine bf_ NB878_894 ?_; refine bf_ NB878_894 ?_; refine bf_ NB878_894 ?_; exact BK878.out) hb); have n3_ := Aside0.mk (blk_below (g := gb879) (o := .cells #[.int .i64 a1_0, .bool a1_1, .int .u64 a1_2, .int .i64 a1_3] 30 (0, 0)) (by refine kb_ ?_; refine bf_ NB879_894 ?_; refine bf_ NB879_894 ?_; refine bf_ NB879_894 ?_; exact BK879.out) hb); have n4_ := Aside0.mk (blk_below (g := gb887) (o := .cells #[.bool t881, .slice Ao38 t882.length co38, .int .i64 t885] 26 (0, 0)) (by refine kb_ ?_; refine bf_ NB887_894 ?_; refine bf_ NB887_894 ?_; refine bf_ NB887_894 ?_; exact BK887.out) hb); have n5_ := Aside0.mk (blk_below (g := gb894) (o := .cells #[.bool t888, .slice Ao46 t889.length co46, .int .i64 t892] 26 (0, 0)) (by refine kb_ ?_; refine bp_ #[.bool t888, .slice Ao46 t889.length co46, .int .i64 0] 2 ?_; refine bp_ #[.bool t888, .slice none 0 0, .int .i64 0] 1 ?_; refine bp_ #[.bool false, .slice none 0 0, .int .i64 0] 0 ?_; exact BK894.out) hb); have n6_ := bq_ HB hb; clear HO884; clear HO891; clear BK878; clear BK879; clear BK887; clear BK894; clear HB; have HO884 := n0_; have HO891 := n1_; have BK878 := n2_; have BK879 := n3_; have BK887 := n4_; have BK894 := n5_; have HB := n6_; clear n0_ n1_ n2_ n3_ n4_ n5_ n6_; (try clear hb); (try clear hb2); (try clear hk); (try clear hi)))
         replace HO884 := Aside0.mk (Kd.R_drew HO884.out)
         replace HO891 := Aside0.mk (Kd.R_drew HO891.out)
         replace BK878 := Aside0.mk (blk_drew BK878.out)
         replace BK879 := Aside0.mk (blk_drew BK879.out)
         replace BK887 := Aside0.mk (blk_drew BK887.out)
         replace BK894 := Aside0.mk (blk_drew BK894.out)
         replace HB := Aside0.mk (below_drew1 HB.out)
         refine start_ (n := 56) (S := fun w' => w'.cell? ⟨gb878, 0, none⟩ = some (.int .i64 a0_0) ∧ w'.cell? ⟨gb878, 1, none⟩ = some (.bool a0_1) ∧ w'.cell? ⟨gb878, 2, none⟩ = some (.int .u64 a0_2) ∧ w'.cell? ⟨gb878, 3, none⟩ = some (.int .i64 a0_3) ∧ w'.cell? ⟨gb879, 0, none⟩ = some (.int .i64 a1_0) ∧ w'.cell? ⟨gb879, 1, none⟩ = some (.bool a1_1) ∧ w'.cell? ⟨gb879, 2, none⟩ = some (.int .u64 a1_2) ∧ w'.cell? ⟨gb879, 3, none⟩ = some (.int .i64 a1_3)) (ds := []) #[false, false, false, false, false, false, false, false, false, false, false, false, false, false, false, false, false, false, false, false, false, false, false, false, false, false, false, false, false, false, false, false, false, false, false, false, false, false, false, false, false, false, false, false, false, false, false, false, false, false, false, false, false, false, false, false] (by kernel_rfl) rfl rfl ⟨(blk_cell BK878.out 0).trans rfl, (blk_cell BK878.out 1).trans rfl, (blk_cell BK878.out 2).trans rfl, (blk_cell BK878.out 3).trans rfl, (blk_cell BK879.out 0).trans rfl, (blk_cell BK879.out 1).trans rfl, (blk_cell BK879.out 2).trans rfl, (blk_cell BK879.out 3).trans rfl⟩ (fun hHeld => ?_); refine with_tabW peloruslaw05_NumTells.tab5 peloruslaw05_NumTells.bits5 (fun HT_ HW_ => ?_)
         generalize w48.drew = w49 at HO884 HO891 BK878 BK879 BK887 BK894 HB hHeld ⊢
         refine pure_ (i := 0) (N := some 27) (v := ?_) (a' := ?_) #[true, false, false, false, false, false, false, false, false, false, false, false, false, false, false, false, false, false, false, false, false, false, false, false, false, false, false, false, false, false, false, false, false, false, false, false, false, false, false, false, false, false, false, false, false, false, false, false, false, false, false, false, false, false, false, false] rfl rfl (any_of HT_.out (by kernel_rfl)) (fun _ _ _ h => h) (Or.inl ⟨by rfl, ?_⟩) ?_ ?_
         rotate_left
         ·intro w'
          go_simp
          with_reducible rfl
         rotate_left
         ·exact pt_
         refine pure_ (i := 1) (N := some 28) (v := ?_) (a' := ?_) #[true, true, false, false, false, false, false, false, false, false, false, false, false, false, false, false, false, false, false, false, false, false, false, false, false, false, false, false, false, false, false, false, false, false, false, false, false, false, false, false, false, false, false, false, false, false, false, false, false, false, false, false, false, false, false, false] rfl rfl (any_of HT_.out (by kernel_rfl)) (fun _ _ _ h => h) (Or.inl ⟨by rfl, ?_⟩) ?_ ?_
         rotate_left
         ·intro w'
          go_simp
          with_reducible rfl
         rotate_left
         ·exact pt_
         refine pure_ (i := 2) (N := some 29) (v := ?_) (a' := ?_) #[true, true, true, false, false, false, false, false, false, false, false, false, false, false, false, false, false, false, false, false, false, false, false, false, false, false, false, false, false, false, false, false, false, false, false, false, false, false, false, false, false, false, false, false, false, false, false, false, false, false, false, false, false, false, false, false] rfl rfl (any_of HT_.out (by kernel_rfl)) (fun _ _ _ h => h) (Or.inl ⟨by rfl, ?_⟩) ?_ ?_
         rotate_left
         ·intro w'
          go_simp
          with_reducible rfl
         rotate_left
         ·exact pt_
         refine pure_ (i := 3) (N := some 30) (v := ?_) (a' := ?_) #[true, true, true, true, false, false, false, false, false, false, false, false, false, false, false, false, false, false, false, false, false, false, false, false, false, false, false, false, false, false, false, false, false, false, false, false, false, false, false, false, false, false, false, false, false, false, false, false, false, false, false, false, false, false, false, false] rfl rfl (any_of HT_.out (by kernel_rfl)) (fun _ _ _ h => h) (Or.inl ⟨by rfl, ?_⟩) ?_ ?_
         rotate_left
         ·intro w'
          go_simp
          with_reducible rfl
         rotate_left
         ·exact pt_
         refine pure_ (i := 4) (N := some 31) (v := ?_) (a' := ?_) #[true, true, true, true, true, false, false, false, false, false, false, false, false, false, false, false, false, false, false, false, false, false, false, false, false, false, false, false, false, false, false, false, false, false, false, false, false, false, false, false, false, false, false, false, false, false, false, false, false, false, false, false, false, false, false, false] rfl rfl (any_of HT_.out (by kernel_rfl)) (fun _ _ _ h => h) (Or.inl ⟨by rfl, ?_⟩) ?_ ?_
         rotate_left
         ·intro w'
          go_simp
          with_reducible rfl
         rotate_left
         ·exact pt_
         refine pure_ (i := 5) (N := some 32) (v := ?_) (a' := ?_) #[true, true, true, true, true, true, false, false, false, false, false, false, false, false, false, false, false, false, false, false, false, false, false, false, false, false, false, false, false, false, false, false, false, false, false, false, false, false, false, false, false, false, false, false, false, false, false, false, false, false, false, false, false, false, false, false] rfl rfl (any_of HT_.out (by kernel_rfl)) (fun _ _ _ h => h) (Or.inl ⟨by rfl, ?_⟩) ?_ ?_
         rotate_left
         ·intro w'
          go_simp
          with_reducible rfl
         rotate_left
         ·exact pt_
         refine pure_ (i := 6) (N := some 33) (v := ?_) (a' := ?_) #[true, true, true, true, true, true, true, false, false, false, false, false, false, false, false, false, false, false, false, false, false, false, false, false, false, false, false, false, false, false, false, false, false, false, false, false, false, false, false, false, false, false, false, false, false, false, false, false, false, false, false, false, false, false, false, false] rfl rfl (any_of HT_.out (by kernel_rfl)) (fun _ _ _ h => h) (Or.inl ⟨by rfl, ?_⟩) ?_ ?_
         rotate_left
         ·intro w'
          go_simp
          with_reducible rfl
         rotate_left
         ·exact pt_
         refine pure_ (i := 7) (N := some 34) (v := ?_) (a' := ?_) #[true, true, true, true, true, true, true, true, false, false, false, false, false, false, false, false, false, false, false, false, false, false, false, false, false, false, false, false, false, false, false, false, false, false, false, false, false, false, false, false, false, false, false, false, false, false, false, false, false, false, false, false, false, false, false, false] rfl rfl (any_of HT_.out (by kernel_rfl)) (fun _ _ _ h => h) (Or.inl ⟨by rfl, ?_⟩) ?_ ?_
         rotate_left
         ·intro w'
          go_simp
          with_reducible rfl
         rotate_left
         ·exact pt_
         refine pure_ (i := 8) (N := some 35) (v := ?_) (a' := ?_) #[true, true, true, true, true, true, true, true, true, false, false, false, false, false, false, false, false, false, false, false, false, false, false, false, false, false, false, false, false, false, false, false, false, false, false, false, false, false, false, false, false, false, false, false, false, false, false, false, false, false, false, false, false, false, false, false] rfl rfl (any_of HT_.out (by kernel_rfl)) (fun _ _ _ h => h) (Or.inl ⟨by rfl, ?_⟩) ?_ ?_
         rotate_left
         ·intro w'
          go_simp
          with_reducible rfl
         rotate_left
         ·exact pt_
         refine pure_ (i := 9) (N := some 36) (v := ?_) (a' := ?_) #[true, true, true, true, true, true, true, true, true, true, false, false, false, false, false, false, false, false, false, false, false, false, false, false, false, false, false, false, false, false, false, false, false, false, false, false, false, false, false, false, false, false, false, false, false, false, false, false, false, false, false, false, false, false, false, false] rfl rfl (any_of HT_.out (by kernel_rfl)) (fun _ _ _ h => h) (Or.inl ⟨by rfl, ?_⟩) ?_ ?_
         rotate_left
         ·intro w'
          go_simp
          with_reducible rfl
         rotate_left
         ·exact pt_
         refine take_ (i := 10) (N := some 37) (v := ?_) (a' := ?_) #[true, true, true, true, true, true, true, true, true, true, true, false, false, false, false, false, false, false, false, false, false, false, false, false, false, false, false, false, false, false, false, false, false, false, false, false, false, false, false, false, false, false, false, false, false, false, false, false, false, false, false, false, false, false, false, false] rfl rfl (take_ofW HT_.out HW_.out (by kernel_rfl)) (fun _ _ _ h => h) (Or.inl ⟨by rfl, ?_⟩) hHeld ?_ ?_
         rotate_left
         ·rintro w' ⟨s0, s1, s2, s3, s4, s5, s6, s7⟩
          go_simp
          with_reducible rfl
         rotate_left
         ·exact pt_
         refine take_ (i := 12) (N := some 39) (v := ?_) (a' := ?_) #[true, true, true, true, true, true, true, true, true, true, true, false, true, false, false, false, false, false, false, false, false, false, false, false, false, false, false, false, false, false, false, false, false, false, false, false, false, false, false, false, false, false, false, false, false, false, false, false, false, false, false, false, false, false, false, false] rfl rfl (take_ofW HT_.out HW_.out (by kernel_rfl)) (fun _ _ _ h => h) (Or.inl ⟨by rfl, ?_⟩) hHeld ?_ ?_
         rotate_left
         ·rintro w' ⟨s0, s1, s2, s3, s4, s5, s6, s7⟩
          go_simp
          with_reducible rfl
         rotate_left
         ·exact pt_
         refine one_ (i := 11) (N := some 38) #[true, true, true, true, true, true, true, true, true, true, true, true, true, false, false, false, false, false, false, false, false, false, false, false, false, false, false, false, false, false, false, false, false, false, false, false, false, false, false, false, false, false, false, false, false, false, false, false, false, false, false, false, false, false, false, false] rfl rfl (one_of HT_.out (by kernel_rfl)) (by decide) (fun K hK => ?_)
         refine gs_ Tryd.func14 #[.agg #[.int .i64 a0_0, .bool a0_1, .int .u64 a0_2, .int .i64 a0_3]] ?_
         with_reducible refine (num_May.calls a0_0 a0_1 a0_2 a0_3 t896 _ A11.out).mono ?_
         rintro e w50 ⟨rfl, hb⟩
         refine ⟨_, rfl, ?_⟩
         replace HO884 := Aside0.mk (Kd.R_below (kr_ HO884.out) hb)
         replace HO891 := Aside0.mk (Kd.R_below (kr_ HO891.out) hb)
         replace BK878 := kq_ BK878 hb
         replace BK879 := kq_ BK879 hb
         replace BK887 := kq_ BK887 hb
         replace BK894 := kq_ BK894 hb
         replace HB := bq_ HB hb
         (try clear hb)
         (try clear hb2)
         (try clear hk)
         (try clear hi)
         refine hK.out _ _ ⟨(blk_cell BK878.out 0).trans rfl, (blk_cell BK878.out 1).trans rfl, (blk_cell BK878.out 2).trans rfl, (blk_cell BK878.out 3).trans rfl, (blk_cell BK879.out 0).trans rfl, (blk_cell BK879.out 1).trans rfl, (blk_cell BK879.out 2).trans rfl, (blk_cell BK879.out 3).trans rfl⟩ (fun hHeld => ?_)
         clear hK K
         refine norm_ (a' := ?_) ?_ ?_
         rotate_left
         ·show Act.put _ (some 38) _ = _
          exact pt_
         refine one_ (i := 13) (N := some 40) #[true, true, true, true, true, true, true, true, true, true, true, true, true, true, false, false, false, false, false, false, false, false, false, false, false, false, false, false, false, false, false, false, false, false, false, false, false, false, false, false, false, false, false, false, false, false, false, false, false, false, false, false, false, false, false, false] rfl rfl (one_of HT_.out (by kernel_rfl)) (by decide) (fun K hK => ?_)
         refine gs_ Tryd.func28 #[.agg #[.int .i64 a0_0, .bool a0_1, .int .u64 a0_2, .int .i64 a0_3]] ?_
         with_reducible refine (pelorusref05_May.calls a0_0 a0_1 a0_2 a0_3 t897 _ A12.out).mono ?_
         rintro e w51 ⟨rfl, hb⟩
         refine ⟨_, rfl, ?_⟩
         replace HO884 := Aside0.mk (Kd.R_below (kr_ HO884.out) hb)
         replace HO891 := Aside0.mk (Kd.R_below (kr_ HO891.out) hb)
         replace BK878 := kq_ BK878 hb
         replace BK879 := kq_ BK879 hb
         replace BK887 := kq_ BK887 hb
         replace BK894 := kq_ BK894 hb
         replace HB := bq_ HB hb
         (try clear hb)
         (try clear hb2)
         (try clear hk)
         (try clear hi)
         refine hK.out _ _ ⟨(blk_cell BK878.out 0).trans rfl, (blk_cell BK878.out 1).trans rfl, (blk_cell BK878.out 2).trans rfl, (blk_cell BK878.out 3).trans rfl, (blk_cell BK879.out 0).trans rfl, (blk_cell BK879.out 1).trans rfl, (blk_cell BK879.out 2).trans rfl, (blk_cell BK879.out 3).trans rfl⟩ (fun hHeld => ?_)
         clear hK K
         refine norm_ (a' := ?_) ?_ ?_
         rotate_left
         ·show Act.put _ (some 40) _ = _
          exact pt_
         refine pure_ (i := 14) (N := some 41) (v := ?_) (a' := ?_) #[true, true, true, true, true, true, true, true, true, true, true, true, true, true, true, false, false, false, false, false, false, false, false, false, false, false, false, false, false, false, false, false, false, false, false, false, false, false, false, false, false, false, false, false, false, false, false, false, false, false, false, false, false, false, false, false] rfl rfl (any_of HT_.out (by kernel_rfl)) (fun _ _ _ h => h) (Or.inl ⟨by rfl, ?_⟩) ?_ ?_
         rotate_left
         ·intro w'
          go_simp
          with_reducible rfl
         rotate_left
         ·exact pt_
         refine pure_ (i := 15) (N := some 42) (v := ?_) (a' := ?_) #[true, true, true, true, true, true, true, true, true, true, true, true, true, true, true, true, false, false, false, false, false, false, false, false, false, false, false, false, false, false, false, false, false, false, false, false, false, false, false, false, false, false, false, false, false, false, false, false, false, false, false, false, false, false, false, false] rfl rfl (any_of HT_.out (by kernel_rfl)) (fun _ _ _ h => h) (Or.inl ⟨by rfl, ?_⟩) ?_ ?_
         rotate_left
         ·intro w'
          go_simp
          with_reducible rfl
         rotate_left
         ·exact pt_
         refine pure_ (i := 16) (N := some 43) (v := ?_) (a' := ?_) #[true, true, true, true, true, true, true, true, true, true, true, true, true, true, true, true, true, false, false, false, false, false, false, false, false, false, false, false, false, false, false, false, false, false, false, false, false, false, false, false, false, false, false, false, false, false, false, false, false, false, false, false, false, false, false, false] rfl rfl (any_of HT_.out (by kernel_rfl)) (fun _ _ _ h => h) (Or.inl ⟨by rfl, ?_⟩) ?_ ?_
         rotate_left
         ·intro w'
          go_simp
          with_reducible rfl
         rotate_left
         ·exact pt_
         refine take_ (i := 17) (N := some 44) (v := ?_) (a' := ?_) #[true, true, true, true, true, true, true, true, true, true, true, true, true, true, true, true, true, true, false, false, false, false, false, false, false, false, false, false, false, false, false, false, false, false, false, false, false, false, false, false, false, false, false, false, false, false, false, false, false, false, false, false, false, false, false, false] rfl rfl (take_ofW HT_.out HW_.out (by kernel_rfl)) (fun _ _ _ h => h) (Or.inl ⟨by rfl, ?_⟩) hHeld ?_ ?_
         rotate_left
         ·rintro w' ⟨s0, s1, s2, s3, s4, s5, s6, s7⟩
          go_simp
          with_reducible rfl
         rotate_left
         ·exact pt_
         refine take_ (i := 19) (N := some 46) (v := ?_) (a' := ?_) #[true, true, true, true, true, true, true, true, true, true, true, true, true, true, true, true, true, true, false, true, false, false, false, false, false, false, false, false, false, false, false, false, false, false, false, false, false, false, false, false, false, false, false, false, false, false, false, false, false, false, false, false, false, false, false, false] rfl rfl (take_ofW HT_.out HW_.out (by kernel_rfl)) (fun _ _ _ h => h) (Or.inl ⟨by rfl, ?_⟩) hHeld ?_ ?_
         rotate_left
         ·rintro w' ⟨s0, s1, s2, s3, s4, s5, s6, s7⟩
          go_simp
          with_reducible rfl
         rotate_left
         ·exact pt_
         refine one_ (i := 18) (N := some 45) #[true, true, true, true, true, true, true, true, true, true, true, true, true, true, true, true, true, true, true, true, false, false, false, false, false, false, false, false, false, false, false, false, false, false, false, false, false, false, false, false, false, false, false, false, false, false, false, false, false, false, false, false, false, false, false, false] rfl rfl (one_of HT_.out (by kernel_rfl)) (by decide) (fun K hK => ?_)
         refine gs_ Tryd.func18 #[.agg #[.int .i64 a0_0, .bool a0_1, .int .u64 a0_2, .int .i64 a0_3]] ?_
         with_reducible refine (num_Sign.calls a0_0 a0_1 a0_2 a0_3 t898 _ A14.out).mono ?_
         rintro e w52 ⟨rfl, hb⟩
         refine ⟨_, rfl, ?_⟩
         replace HO884 := Aside0.mk (Kd.R_below (kr_ HO884.out) hb)
         replace HO891 := Aside0.mk (Kd.R_below (kr_ HO891.out) hb)
         replace BK878 := kq_ BK878 hb
         replace BK879 := kq_ BK879 hb
         replace BK887 := kq_ BK887 hb
         replace BK894 := kq_ BK894 hb
         replace HB := bq_ HB hb
         (try clear hb)
         (try clear hb2)
         (try clear hk)
         (try clear hi)
         refine hK.out _ _ ⟨(blk_cell BK878.out 0).trans rfl, (blk_cell BK878.out 1).trans rfl, (blk_cell BK878.out 2).trans rfl, (blk_cell BK878.out 3).trans rfl, (blk_cell BK879.out 0).trans rfl, (blk_cell BK879.out 1).trans rfl, (blk_cell BK879.out 2).trans rfl, (blk_cell BK879.out 3).trans rfl⟩ (fun hHeld => ?_)
         clear hK K
         refine norm_ (a' := ?_) ?_ ?_
         rotate_left
         ·show Act.put _ (some 45) _ = _
          exact pt_
         refine one_ (i := 20) (N := some 47) #[true, true, true, true, true, true, true, true, true, true, true, true, true, true, true, true, true, true, true, true, true, false, false, false, false, false, false, false, false, false, false, false, false, false, false, false, false, false, false, false, false, false, false, false, false, false, false, false, false, false, false, false, false, false, false, false] rfl rfl (one_of HT_.out (by kernel_rfl)) (by decide) (fun K hK => ?_)
         refine gs_ Tryd.func29 #[.agg #[.int .i64 a0_0, .bool a0_1, .int .u64 a0_2, .int .i64 a0_3]] ?_
         with_reducible refine (pelorusref05_Sign.calls a0_0 a0_1 a0_2 a0_3 t899 _ A15.out).mono ?_
         rintro e w53 ⟨rfl, hb⟩
         refine ⟨_, rfl, ?_⟩
         replace HO884 := Aside0.mk (Kd.R_below (kr_ HO884.out) hb)
         replace HO891 := Aside0.mk (Kd.R_below (kr_ HO891.out) hb)
         replace BK878 := kq_ BK878 hb
         replace BK879 := kq_ BK879 hb
         replace BK887 := kq_ BK887 hb
         replace BK894 := kq_ BK894 hb
         replace HB := bq_ HB hb
         (try clear hb)
         (try clear hb2)
         (try clear hk)
         (try clear hi)
         refine hK.out _ _ ⟨(blk_cell BK878.out 0).trans rfl, (blk_cell BK878.out 1).trans rfl, (blk_cell BK878.out 2).trans rfl, (blk_cell BK878.out 3).trans rfl, (blk_cell BK879.out 0).trans rfl, (blk_cell BK879.out 1).trans rfl, (blk_cell BK879.out 2).trans rfl, (blk_cell BK879.out 3).trans rfl⟩ (fun hHeld => ?_)
         clear hK K
         refine norm_ (a' := ?_) ?_ ?_
         rotate_left
         ·show Act.put _ (some 47) _ = _
          exact pt_
         refine pure_ (i := 21) (N := some 48) (v := ?_) (a' := ?_) #[true, true, true, true, true, true, true, true, true, true, true, true, true, true, true, true, true, true, true, true, true, true, false, false, false, false, false, false, false, false, false, false, false, false, false, false, false, false, false, false, false, false, false, false, false, false, false, false, false, false, false, false, false, false, false, false] rfl rfl (any_of HT_.out (by kernel_rfl)) (fun _ _ _ h => h) (Or.inl ⟨by rfl, ?_⟩) ?_ ?_
         rotate_left
         ·intro w'
          go_simp
          with_reducible rfl
         rotate_left
         ·exact pt_
         refine pure_ (i := 22) (N := some 49) (v := ?_) (a' := ?_) #[true, true, true, true, true, true, true, true, true, true, true, true, true, true, true, true, true, true, true, true, true, true, true, false, false, false, false, false, false, false, false, false, false, false, false, false, false, false, false, false, false, false, false, false, false, false, false, false, false, false, false, false, false, false, false, false] rfl rfl (any_of HT_.out (by kernel_rfl)) (fun _ _ _ h => h) (Or.inl ⟨by rfl, ?_⟩) ?_ ?_
         rotate_left
         ·intro w'
          go_simp
          with_reducible rfl
         rotate_left
         ·exact pt_
         refine pure_ (i := 23) (N := some 50) (v := ?_) (a' := ?_) #[true, true, true, true, true, true, true, true, true, true, true, true, true, true, true, true, true, true, true, true, true, true, true, true, false, false, false, false, false, false, false, false, false, false, false, false, false, false, false, false, false, false, false, false, false, false, false, false, false, false, false, false, false, false, false, false] rfl rfl (any_of HT_.out (by kernel_rfl)) (fun _ _ _ h => h) (Or.inl ⟨by rfl, ?_⟩) ?_ ?_
         rotate_left
         ·intro w'
          go_simp
          with_reducible rfl
         rotate_left
         ·exact pt_
         refine take_ (i := 24) (N := some 51) (v := ?_) (a' := ?_) #[true, true, true, true, true, true, true, true, true, true, true, true, true, true, true, true, true, true, true, true, true, true, true, true, true, false, false, false, false, false, false, false, false, false, false, false, false, false, false, false, false, false, false, false, false, false, false, false, false, false, false, false, false, false, false, false] rfl rfl (take_ofW HT_.out HW_.out (by kernel_rfl)) (fun _ _ _ h => h) (Or.inl ⟨by rfl, ?_⟩) hHeld ?_ ?_
         rotate_left
         ·rintro w' ⟨s0, s1, s2, s3, s4, s5, s6, s7⟩
          go_simp
          with_reducible rfl
         rotate_left
         ·exact pt_
         refine take_ (i := 26) (N := some 53) (v := ?_) (a' := ?_) #[true, true, true, true, true, true, true, true, true, true, true, true, true, true, true, true, true, true, true, true, true, true, true, true, true, false, true, false, false, false, false, false, false, false, false, false, false, false, false, false, false, false, false, false, false, false, false, false, false, false, false, false, false, false, false, false] rfl rfl (take_ofW HT_.out HW_.out (by kernel_rfl)) (fun _ _ _ h => h) (Or.inl ⟨by rfl, ?_⟩) hHeld ?_ ?_
         rotate_left
         ·rintro w' ⟨s0, s1, s2, s3, s4, s5, s6, s7⟩
          go_simp
          with_reducible rfl
         rotate_left
         ·exact pt_
         refine one_ (i := 25) (N := some 52) #[true, true, true, true, true, true, true, true, true, true, true, true, true, true, true, true, true, true, true, true, true, true, true, true, true, true, true, false, false, false, false, false, false, false, false, false, false, false, false, false, false, false, false, false, false, false, false, false, false, false, false, false, false, false, false, false] rfl rfl (one_of HT_.out (by kernel_rfl)) (by decide) (fun K hK => ?_)
         refine gs_ Tryd.func16 #[.agg #[.int .i64 a0_0, .bool a0_1, .int .u64 a0_2, .int .i64 a0_3]] ?_
         with_reducible refine (num_Neg.calls a0_0 a0_1 a0_2 a0_3 t900 t901 t902 t903 _ A17.out).mono ?_
         rintro e w54 ⟨rfl, hb⟩
         refine ⟨_, rfl, ?_⟩
         replace HO884 := Aside0.mk (Kd.R_below (kr_ HO884.out) hb)
         replace HO891 := Aside0.mk (Kd.R_below (kr_ HO891.out) hb)
         replace BK878 := kq_ BK878 hb
         replace BK879 := kq_ BK879 hb
         replace BK887 := kq_ BK887 hb
         replace BK894 := kq_ BK894 hb
         replace HB := bq_ HB hb
         (try clear hb)
         (try clear hb2)
         (try clear hk)
         (try clear hi)
         refine hK.out _ _ ⟨(blk_cell BK878.out 0).trans rfl, (blk_cell BK878.out 1).trans rfl, (blk_cell BK878.out 2).trans rfl, (blk_cell BK878.out 3).trans rfl, (blk_cell BK879.out 0).trans rfl, (blk_cell BK879.out 1).trans rfl, (blk_cell BK879.out 2).trans rfl, (blk_cell BK879.out 3).trans rfl⟩ (fun hHeld => ?_)
         clear hK K
         refine norm_ (a' := ?_) ?_ ?_
         rotate_left
         ·show Act.put _ (some 52) _ = _
          exact pt_
         refine one_ (i := 27) (N := some 54) #[true, true, true, true, true, true, true, true, true, true, true, true, true, true, true, true, true, true, true, true, true, true, true, true, true, true, true, true, false, false, false, false, false, false, false, false, false, false, false, false, false, false, false, false, false, false, false, false, false, false, false, false, false, false, false, false] rfl rfl (one_of HT_.out (by kernel_rfl)) (by decide) (fun K hK => ?_)
         refine gs_ Tryd.func30 #[.agg #[.int .i64 a0_0, .bool a0_1, .int .u64 a0_2, .int .i64 a0_3]] ?_
         with_reducible refine (pelorusref05_Neg.calls a0_0 a0_1 a0_2 a0_3 t904 t905 t906 t907 _ A18.out).mono ?_
         rintro e w55 ⟨rfl, hb⟩
         refine ⟨_, rfl, ?_⟩
         replace HO884 := Aside0.mk (Kd.R_below (kr_ HO884.out) hb)
         replace HO891 := Aside0.mk (Kd.R_below (kr_ HO891.out) hb)
         replace BK878 := kq_ BK878 hb
         replace BK879 := kq_ BK879 hb
         replace BK887 := kq_ BK887 hb
         replace BK894 := kq_ BK894 hb
         replace HB := bq_ HB hb
         (try clear hb)
         (try clear hb2)
         (try clear hk)
         (try clear hi)
         refine hK.out _ _ ⟨(blk_cell BK878.out 0).trans rfl, (blk_cell BK878.out 1).trans rfl, (blk_cell BK878.out 2).trans rfl, (blk_cell BK878.out 3).trans rfl, (blk_cell BK879.out 0).trans rfl, (blk_cell BK879.out 1).trans rfl, (blk_cell BK879.out 2).trans rfl, (blk_cell BK879.out 3).trans rfl⟩ (fun hHeld => ?_)
         clear hK K
         refine norm_ (a' := ?_) ?_ ?_
         rotate_left
         ·show Act.put _ (some 54) _ = _
          exact pt_
         refine pure_ (i := 28) (N := some 55) (v := ?_) (a' := ?_) #[true, true, true, true, true, true, true, true, true, true, true, true, true, true, true, true, true, true, true, true, true, true, true, true, true, true, true, true, true, false, false, false, false, false, false, false, false, false, false, false, false, false, false, false, false, false, false, false, false, false, false, false, false, false, false, false] rfl rfl (any_of HT_.out (by kernel_rfl)) (fun _ _ _ h => h) (Or.inl ⟨by rfl, ?_⟩) ?_ ?_
         rotate_left
         ·intro w'
          go_simp
          with_reducible rfl
         rotate_left
         ·exact pt_
         refine pure_ (i := 29) (N := some 56) (v := ?_) (a' := ?_) #[true, true, true, true, true, true, true, true, true, true, true, true, true, true, true, true, true, true, true, true, true, true, true, true, true, true, true, true, true, true, false, false, false, false, false, false, false, false, false, false, false, false, false, false, false, false, false, false, false, false, false, false, false, false, false, false] rfl rfl (any_of HT_.out (by kernel_rfl)) (fun _ _ _ h => h) (Or.inl ⟨by rfl, ?_⟩) ?_ ?_
         rotate_left
         ·intro w'
          go_simp
          with_reducible rfl
         rotate_left
         ·exact pt_
         refine pure_ (i := 30) (N := some 57) (v := ?_) (a' := ?_) #[true, true, true, true, true, true, true, true, true, true, true, true, true, true, true, true, true, true, true, true, true, true, true, true, true, true, true, true, true, true, true, false, false, false, false, false, false, false, false, false, false, false, false, false, false, false, false, false, false, false, false, false, false, false, false, false] rfl rfl (any_of HT_.out (by kernel_rfl)) (fun _ _ _ h => h) (Or.inl ⟨by rfl, ?_⟩) ?_ ?_
         rotate_left
         ·intro w'
          go_simp
          with_reducible rfl
         rotate_left
         ·exact pt_
         refine pure_ (i := 32) (N := some 59) (v := ?_) (a' := ?_) #[true, true, true, true, true, true, true, true, true, true, true, true, true, true, true, true, true, true, true, true, true, true, true, true, true, true, true, true, true, true, true, false, true, false, false, false, false, false, false, false, false, false, false, false, false, false, false, false, false, false, false, false, false, false, false, false] rfl rfl (any_of HT_.out (by kernel_rfl)) (fun _ _ _ h => h) (Or.inl ⟨by rfl, ?_⟩) ?_ ?_
         rotate_left
         ·intro w'
          go_simp
          with_reducible rfl
         rotate_left
         ·exact pt_
         refine pure_ (i := 35) (N := some 62) (v := ?_) (a' := ?_) #[true, true, true, true, true, true, true, true, true, true, true, true, true, true, true, true, true, true, true, true, true, true, true, true, true, true, true, true, true, true, true, false, true, false, false, true, false, false, false, false, false, false, false, false, false, false, false, false, false, false, false, false, false, false, false, false] rfl rfl (any_of HT_.out (by kernel_rfl)) (fun _ _ _ h => h) (Or.inl ⟨by rfl, ?_⟩) ?_ ?_
         rotate_left
         ·intro w'
          go_simp
          with_reducible rfl
         rotate_left
         ·exact pt_
         refine take_ (i := 31) (N := some 58) (v := ?_) (a' := ?_) #[true, true, true, true, true, true, true, true, true, true, true, true, true, true, true, true, true, true, true, true, true, true, true, true, true, true, true, true, true, true, true, true, true, false, false, true, false, false, false, false, false, false, false, false, false, false, false, false, false, false, false, false, false, false, false, false] rfl rfl (take_ofW HT_.out HW_.out (by kernel_rfl)) (fun _ _ _ h => h) (Or.inl ⟨by rfl, ?_⟩) hHeld ?_ ?_
         rotate_left
         ·rintro w' ⟨s0, s1, s2, s3, s4, s5, s6, s7⟩
          go_simp
          with_reducible rfl
         rotate_left
         ·exact pt_
         refine take_ (i := 34) (N := some 61) (v := ?_) (a' := ?_) #[true, true, true, true, true, true, true, true, true, true, true, true, true, true, true, true, true, true, true, true, true, true, true, true, true, true, true, true, true, true, true, true, true, false, true, true, false, false, false, false, false, false, false, false, false, false, false, false, false, false, false, false, false, false, false, false] rfl rfl (take_ofW HT_.out HW_.out (by kernel_rfl)) (fun _ _ _ h => h) (Or.inl ⟨by rfl, ?_⟩) hHeld ?_ ?_
         rotate_left
         ·rintro w' ⟨s0, s1, s2, s3, s4, s5, s6, s7⟩
          go_simp
          with_reducible rfl
         rotate_left
         ·exact pt_
         refine one_ (i := 33) (N := some 60) #[true, true, true, true, true, true, true, true, true, true, true, true, true, true, true, true, true, true, true, true, true, true, true, true, true, true, true, true, true, true, true, true, true, true, true, true, false, false, false, false, false, false, false, false, false, false, false, false, false, false, false, false, false, false, false, false] rfl rfl (one_of HT_.out (by kernel_rfl)) (by decide) (fun K hK => ?_)
         refine gs_ Tryd.func24 #[.agg #[.int .i64 a0_0, .bool a0_1, .int .u64 a0_2, .int .i64 a0_3], .bool a2] ?_
         with_reducible refine (num_Next.calls k a0_0 a0_1 a0_2 a0_3 a2 t908 t909 t910 t911 _ A20.out).mono ?_
         rintro e w56 ⟨rfl, hb⟩
         refine ⟨_, rfl, ?_⟩
         replace HO884 := Aside0.mk (Kd.R_below (kr_ HO884.out) hb)
         replace HO891 := Aside0.mk (Kd.R_below (kr_ HO891.out) hb)
         replace BK878 := kq_ BK878 hb
         replace BK879 := kq_ BK879 hb
         replace BK887 := kq_ BK887 hb
         replace BK894 := kq_ BK894 hb
         replace HB := bq_ HB hb
         (try clear hb)
         (try clear hb2)
         (try clear hk)
         (try clear hi)
         refine hK.out _ _ ⟨(blk_cell BK878.out 0).trans rfl, (blk_cell BK878.out 1).trans rfl, (blk_cell BK878.out 2).trans rfl, (blk_cell BK878.out 3).trans rfl, (blk_cell BK879.out 0).trans rfl, (blk_cell BK879.out 1).trans rfl, (blk_cell BK879.out 2).trans rfl, (blk_cell BK879.out 3).trans rfl⟩ (fun hHeld => ?_)
         clear hK K
         refine norm_ (a' := ?_) ?_ ?_
         rotate_left
         ·show Act.put _ (some 60) _ = _
          exact pt_
         refine one_ (i := 36) (N := some 63) #[true, true, true, true, true, true, true, true, true, true, true, true, true, true, true, true, true, true, true, true, true, true, true, true, true, true, true, true, true, true, true, true, true, true, true, true, true, false, false, false, false, false, false, false, false, false, false, false, false, false, false, false, false, false, false, false] rfl rfl (one_of HT_.out (by kernel_rfl)) (by decide) (fun K hK => ?_)
         refine gs_ Tryd.func31 #[.agg #[.int .i64 a0_0, .bool a0_1, .int .u64 a0_2, .int .i64 a0_3], .bool a2] ?_
         with_reducible refine (pelorusref05_Next.calls a0_0 a0_1 a0_2 a0_3 a2 t912 t913 t914 t915 _ A21.out).mono ?_
         rintro e w57 ⟨rfl, hb⟩
         refine ⟨_, rfl, ?_⟩
         replace HO884 := Aside0.mk (Kd.R_below (kr_ HO884.out) hb)
         replace HO891 := Aside0.mk (Kd.R_below (kr_ HO891.out) hb)
         replace BK878 := kq_ BK878 hb
         replace BK879 := kq_ BK879 hb
         replace BK887 := kq_ BK887 hb
         replace BK894 := kq_ BK894 hb
         replace HB := bq_ HB hb
         (try clear hb)
         (try clear hb2)
         (try clear hk)
         (try clear hi)
         refine hK.out _ _ ⟨(blk_cell BK878.out 0).trans rfl, (blk_cell BK878.out 1).trans rfl, (blk_cell BK878.out 2).trans rfl, (blk_cell BK878.out 3).trans rfl, (blk_cell BK879.out 0).trans rfl, (blk_cell BK879.out 1).trans rfl, (blk_cell BK879.out 2).trans rfl, (blk_cell BK879.out 3).trans rfl⟩ (fun hHeld => ?_)
         clear hK K
         refine norm_ (a' := ?_) ?_ ?_
         rotate_left
         ·show Act.put _ (some 63) _ = _
          exact pt_
         refine pure_ (i := 37) (N := some 64) (v := ?_) (a' := ?_) #[true, true, true, true, true, true, true, true, true, true, true, true, true, true, true, true, true, true, true, true, true, true, true, true, true, true, true, true, true, true, true, true, true, true, true, true, true, true, false, false, false, false, false, false, false, false, false, false, false, false, false, false, false, false, false, false] rfl rfl (any_of HT_.out (by kernel_rfl)) (fun _ _ _ h => h) (Or.inl ⟨by rfl, ?_⟩) ?_ ?_
         rotate_left
         ·intro w'
          go_simp
          with_reducible rfl
         rotate_left
         ·exact pt_
         refine pure_ (i := 38) (N := some 65) (v := ?_) (a' := ?_) #[true, true, true, true, true, true, true, true, true, true, true, true, true, true, true, true, true, true, true, true, true, true, true, true, true, true, true, true, true, true, true, true, true, true, true, true, true, true, true, false, false, false, false, false, false, false, false, false, false, false, false, false, false, false, false, false] rfl rfl (any_of HT_.out (by kernel_rfl)) (fun _ _ _ h => h) (Or.inl ⟨by rfl, ?_⟩) ?_ ?_
         rotate_left
         ·intro w'
          go_simp
          with_reducible rfl
         rotate_left
         ·exact pt_
         refine pure_ (i := 39) (N := some 66) (v := ?_) (a' := ?_) #[true, true, true, true, true, true, true, true, true, true, true, true, true, true, true, true, true, true, true, true, true, true, true, true, true, true, true, true, true, true, true, true, true, true, true, true, true, true, true, true, false, false, false, false, false, false, false, false, false, false, false, false, false, false, false, false] rfl rfl (any_of HT_.out (by kernel_rfl)) (fun _ _ _ h => h) (Or.inl ⟨by rfl, ?_⟩) ?_ ?_
         rotate_left
         ·intro w'
          go_simp
          with_reducible rfl
         rotate_left
         ·exact pt_
         refine take_ (i := 40) (N := some 67) (v := ?_) (a' := ?_) #[true, true, true, true, true, true, true, true, true, true, true, true, true, true, true, true, true, true, true, true, true, true, true, true, true, true, true, true, true, true, true, true, true, true, true, true, true, true, true, true, true, false, false, false, false, false, false, false, false, false, false, false, false, false, false, false] rfl rfl (take_ofW HT_.out HW_.out (by kernel_rfl)) (fun _ _ _ h => h) (Or.inl ⟨by rfl, ?_⟩) hHeld ?_ ?_
         rotate_left
         ·rintro w' ⟨s0, s1, s2, s3, s4, s5, s6, s7⟩
          go_simp
          with_reducible rfl
         rotate_left
         ·exact pt_
         refine take_ (i := 41) (N := some 68) (v := ?_) (a' := ?_) #[true, true, true, true, true, true, true, true, true, true, true, true, true, true, true, true, true, true, true, true, true, true, true, true, true, true, true, true, true, true, true, true, true, true, true, true, true, true, true, true, true, true, false, false, false, false, false, false, false, false, false, false, false, false, false, false] rfl rfl (take_ofW HT_.out HW_.out (by kernel_rfl)) (fun _ _ _ h => h) (Or.inl ⟨by rfl, ?_⟩) hHeld ?_ ?_
         rotate_left
         ·rintro w' ⟨s0, s1, s2, s3, s4, s5, s6, s7⟩
          go_simp
          with_reducible rfl
         rotate_left
         ·exact pt_
         refine take_ (i := 43) (N := some 70) (v := ?_) (a' := ?_) #[true, true, true, true, true, true, true, true, true, true, true, true, true, true, true, true, true, true, true, true, true, true, true, true, true, true, true, true, true, true, true, true, true, true, true, true, true, true, true, true, true, true, false, true, false, false, false, false, false, false, false, false, false, false, false, false] rfl rfl (take_ofW HT_.out HW_.out (by kernel_rfl)) (fun _ _ _ h => h) (Or.inl ⟨by rfl, ?_⟩) hHeld ?_ ?_
         rotate_left
         ·rintro w' ⟨s0, s1, s2, s3, s4, s5, s6, s7⟩
          go_simp
          with_reducible rfl
         rotate_left
         ·exact pt_
         refine take_ (i := 44) (N := some 71) (v := ?_) (a' := ?_) #[true, true, true, true, true, true, true, true, true, true, true, true, true, true, true, true, true, true, true, true, true, true, true, true, true, true, true, true, true, true, true, true, true, true, true, true, true, true, true, true, true, true, false, true, true, false, false, false, false, false, false, false, false, false, false, false] rfl rfl (take_ofW HT_.out HW_.out (by kernel_rfl)) (fun _ _ _ h => h) (Or.inl ⟨by rfl, ?_⟩) hHeld ?_ ?_
         rotate_left
         ·rintro w' ⟨s0, s1, s2, s3, s4, s5, s6, s7⟩
          go_simp
          with_reducible rfl
         rotate_left
         ·exact pt_
         refine one_ (i := 42) (N := some 69) #[true, true, true, true, true, true, true, true, true, true, true, true, true, true, true, true, true, true, true, true, true, true, true, true, true, true, true, true, true, true, true, true, true, true, true, true, true, true, true, true, true, true, true, true, true, false, false, false, false, false, false, false, false, false, false, false] rfl rfl (one_of HT_.out (by kernel_rfl)) (by decide) (fun K hK => ?_)
         refine gs_ Tryd.func17 #[.agg #[.int .i64 a0_0, .bool a0_1, .int .u64 a0_2, .int .i64 a0_3], .agg #[.int .i64 a1_0, .bool a1_1, .int .u64 a1_2, .int .i64 a1_3]] ?_
         with_reducible refine (num_Cmp.calls a0_0 a0_1 a0_2 a0_3 a1_0 a1_1 a1_2 a1_3 t916 _ A23.out).mono ?_
         rintro e w58 ⟨rfl, hb⟩
         refine ⟨_, rfl, ?_⟩
         replace HO884 := Aside0.mk (Kd.R_below (kr_ HO884.out) hb)
         replace HO891 := Aside0.mk (Kd.R_below (kr_ HO891.out) hb)
         replace BK878 := kq_ BK878 hb
         replace BK879 := kq_ BK879 hb
         replace BK887 := kq_ BK887 hb
         replace BK894 := kq_ BK894 hb
         replace HB := bq_ HB hb
         (try clear hb)
         (try clear hb2)
         (try clear hk)
         (try clear hi)
         refine hK.out _ _ ⟨(blk_cell BK878.out 0).trans rfl, (blk_cell BK878.out 1).trans rfl, (blk_cell BK878.out 2).trans rfl, (blk_cell BK878.out 3).trans rfl, (blk_cell BK879.out 0).trans rfl, (blk_cell BK879.out 1).trans rfl, (blk_cell BK879.out 2).trans rfl, (blk_cell BK879.out 3).trans rfl⟩ (fun hHeld => ?_)
         clear hK K
         refine norm_ (a' := ?_) ?_ ?_
         rotate_left
         ·show Act.put _ (some 69) _ = _
          exact pt_
         refine one_ (i := 45) (N := some 72) #[true, true, true, true, true, true, true, true, true, true, true, true, true, true, true, true, true, true, true, true, true, true, true, true, true, true, true, true, true, true, true, true, true, true, true, true, true, true, true, true, true, true, true, true, true, true, false, false, false, false, false, false, false, false, false, false] rfl rfl (one_of HT_.out (by kernel_rfl)) (by decide) (fun K hK => ?_)
         refine gs_ Tryd.func32 #[.agg #[.int .i64 a0_0, .bool a0_1, .int .u64 a0_2, .int .i64 a0_3], .agg #[.int .i64 a1_0, .bool a1_1, .int .u64 a1_2, .int .i64 a1_3]] ?_
         with_reducible refine (pelorusref05_Cmp.calls k a0_0 a0_1 a0_2 a0_3 a1_0 a1_1 a1_2 a1_3 t917 _ A24.out).mono ?_
         rintro e w59 ⟨rfl, hb⟩
         refine ⟨_, rfl, ?_⟩
         replace HO884 := Aside0.mk (Kd.R_below (kr_ HO884.out) hb)
         replace HO891 := Aside0.mk (Kd.R_below (kr_ HO891.out) hb)
         replace BK878 := kq_ BK878 hb
         replace BK879 := kq_ BK879 hb
         replace BK887 := kq_ BK887 hb
         replace BK894 := kq_ BK894 hb
         replace HB := bq_ HB hb
         (try clear hb)
         (try clear hb2)
         (try clear hk)
         (try clear hi)
         refine hK.out _ _ ⟨(blk_cell BK878.out 0).trans rfl, (blk_cell BK878.out 1).trans rfl, (blk_cell BK878.out 2).trans rfl, (blk_cell BK878.out 3).trans rfl, (blk_cell BK879.out 0).trans rfl, (blk_cell BK879.out 1).trans rfl, (blk_cell BK879.out 2).trans rfl, (blk_cell BK879.out 3).trans rfl⟩ (fun hHeld => ?_)
         clear hK K
         refine norm_ (a' := ?_) ?_ ?_
         rotate_left
         ·show Act.put _ (some 72) _ = _
          exact pt_
         refine pure_ (i := 46) (N := some 73) (v := ?_) (a' := ?_) #[true, true, true, true, true, true, true, true, true, true, true, true, true, true, true, true, true, true, true, true, true, true, true, true, true, true, true, true, true, true, true, true, true, true, true, true, true, true, true, true, true, true, true, true, true, true, true, false, false, false, false, false, false, false, false, false] rfl rfl (any_of HT_.out (by kernel_rfl)) (fun _ _ _ h => h) (Or.inl ⟨by rfl, ?_⟩) ?_ ?_
         rotate_left
         ·intro w'
          go_simp
          with_reducible rfl
         rotate_left
         ·exact pt_
         refine pure_ (i := 47) (N := some 74) (v := ?_) (a' := ?_) #[true, true, true, true, true, true, true, true, true, true, true, true, true, true, true, true, true, true, true, true, true, true, true, true, true, true, true, true, true, true, true, true, true, true, true, true, true, true, true, true, true, true, true, true, true, true, true, true, false, false, false, false, false, false, false, false] rfl rfl (any_of HT_.out (by kernel_rfl)) (fun _ _ _ h => h) (Or.inl ⟨by rfl, ?_⟩) ?_ ?_
         rotate_left
         ·intro w'
          go_simp
          with_reducible rfl
         rotate_left
         ·exact pt_
         refine pure_ (i := 48) (N := some 75) (v := ?_) (a' := ?_) #[true, true, true, true, true, true, true, true, true, true, true, true, true, true, true, true, true, true, true, true, true, true, true, true, true, true, true, true, true, true, true, true, true, true, true, true, true, true, true, true, true, true, true, true, true, true, true, true, true, false, false, false, false, false, false, false] rfl rfl (any_of HT_.out (by kernel_rfl)) (fun _ _ _ h => h) (Or.inl ⟨by rfl, ?_⟩) ?_ ?_
         rotate_left
         ·intro w'
          go_simp
          with_reducible rfl
         rotate_left
         ·exact pt_
         refine pure_ (i := 49) (N := some 76) (v := ?_) (a' := ?_) #[true, true, true, true, true, true, true, true, true, true, true, true, true, true, true, true, true, true, true, true, true, true, true, true, true, true, true, true, true, true, true, true, true, true, true, true, true, true, true, true, true, true, true, true, true, true, true, true, true, true, false, false, false, false, false, false] rfl rfl (any_of HT_.out (by kernel_rfl)) (fun _ _ _ h => h) (Or.inl ⟨by rfl, ?_⟩) ?_ ?_
         rotate_left
         ·intro w'
          go_simp
          with_reducible rfl
         rotate_left
         ·exact pt_
         refine pure_ (i := 51) (N := some 78) (v := ?_) (a' := ?_) #[true, true, true, true, true, true, true, true, true, true, true, true, true, true, true, true, true, true, true, true, true, true, true, true, true, true, true, true, true, true, true, true, true, true, true, true, true, true, true, true, true, true, true, true, true, true, true, true, true, true, false, true, false, false, false, false] rfl rfl (any_of HT_.out (by kernel_rfl)) (fun _ _ _ h => h) (Or.inl ⟨by rfl, ?_⟩) ?_ ?_
         rotate_left
         ·intro w'
          go_simp
          with_reducible rfl
         rotate_left
         ·exact pt_
         refine one_ (i := 50) (N := some 77) #[true, true, true, true, true, true, true, true, true, true, true, true, true, true, true, true, true, true, true, true, true, true, true, true, true, true, true, true, true, true, true, true, true, true, true, true, true, true, true, true, true, true, true, true, true, true, true, true, true, true, true, true, false, false, false, false] rfl rfl (one_of HT_.out (by kernel_rfl)) (by decide) (fun K hK => ?_)
         refine gs_ Tryd.func33 #[.bool a2] ?_
         with_reducible refine (num_Infinite.calls a2 t918 t919 t920 t921 _ A26.out).mono ?_
         rintro e w60 ⟨rfl, hb⟩
         refine ⟨_, rfl, ?_⟩
         replace HO884 := Aside0.mk (Kd.R_below (kr_ HO884.out) hb)
         replace HO891 := Aside0.mk (Kd.R_below (kr_ HO891.out) hb)
         replace BK878 := kq_ BK878 hb
         replace BK879 := kq_ BK879 hb
         replace BK887 := kq_ BK887 hb
         replace BK894 := kq_ BK894 hb
         replace HB := bq_ HB hb
         (try clear hb)
         (try clear hb2)
         (try clear hk)
         (try clear hi)
         refine hK.out _ _ ⟨(blk_cell BK878.out 0).trans rfl, (blk_cell BK878.out 1).trans rfl, (blk_cell BK878.out 2).trans rfl, (blk_cell BK878.out 3).trans rfl, (blk_cell BK879.out 0).trans rfl, (blk_cell BK879.out 1).trans rfl, (blk_cell BK879.out 2).trans rfl, (blk_cell BK879.out 3).trans rfl⟩ (fun hHeld => ?_)
         clear hK K
         refine norm_ (a' := ?_) ?_ ?_
         rotate_left
         ·show Act.put _ (some 77) _ = _
          exact pt_
         refine one_ (i := 52) (N := some 79) #[true, true, true, true, true, true, true, true, true, true, true, true, true, true, true, true, true, true, true, true, true, true, true, true, true, true, true, true, true, true, true, true, true, true, true, true, true, true, true, true, true, true, true, true, true, true, true, true, true, true, true, true, true, false, false, false] rfl rfl (one_of HT_.out (by kernel_rfl)) (by decide) (fun K hK => ?_)
         refine gs_ Tryd.func34 #[.bool a2] ?_
         with_reducible refine (pelorusref05_Infinite.calls a2 t922 t923 t924 t925 _ A27.out).mono ?_
         rintro e w61 ⟨rfl, hb⟩
         refine ⟨_, rfl, ?_⟩
         replace HO884 := Aside0.mk (Kd.R_below (kr_ HO884.out) hb)
         replace HO891 := Aside0.mk (Kd.R_below (kr_ HO891.out) hb)
         replace BK878 := kq_ BK878 hb
         replace BK879 := kq_ BK879 hb
         replace BK887 := kq_ BK887 hb
         replace BK894 := kq_ BK894 hb
         replace HB := bq_ HB hb
         (try clear hb)
         (try clear hb2)
         (try clear hk)
         (try clear hi)
         refine hK.out _ _ ⟨(blk_cell BK878.out 0).trans rfl, (blk_cell BK878.out 1).trans rfl, (blk_cell BK878.out 2).trans rfl, (blk_cell BK878.out 3).trans rfl, (blk_cell BK879.out 0).trans rfl, (blk_cell BK879.out 1).trans rfl, (blk_cell BK879.out 2).trans rfl, (blk_cell BK879.out 3).trans rfl⟩ (fun hHeld => ?_)
         clear hK K
         refine norm_ (a' := ?_) ?_ ?_
         rotate_left
         ·show Act.put _ (some 79) _ = _
          exact pt_
         refine pure_ (i := 53) (N := some 80) (v := ?_) (a' := ?_) #[true, true, true, true, true, true, true, true, true, true, true, true, true, true, true, true, true, true, true, true, true, true, true, true, true, true, true, true, true, true, true, true, true, true, true, true, true, true, true, true, true, true, true, true, true, true, true, true, true, true, true, true, true, true, false, false] rfl rfl (any_of HT_.out (by kernel_rfl)) (fun _ _ _ h => h) (Or.inl ⟨by rfl, ?_⟩) ?_ ?_
         rotate_left
         ·intro w'
          go_simp
          with_reducible rfl
         rotate_left
         ·exact pt_
         refine pure_ (i := 54) (N := some 81) (v := ?_) (a' := ?_) #[true, true, true, true, true, true, true, true, true, true, true, true, true, true, true, true, true, true, true, true, true, true, true, true, true, true, true, true, true, true, true, true, true, true, true, true, true, true, true, true, true, true, true, true, true, true, true, true, true, true, true, true, true, true, true, false] rfl rfl (any_of HT_.out (by kernel_rfl)) (fun _ _ _ h => h) (Or.inl ⟨by rfl, ?_⟩) ?_ ?_
         rotate_left
         ·intro w'
          go_simp
          with_reducible rfl
         rotate_left
         ·exact pt_
         refine pure_ (i := 55) (N := some 6) (v := ?_) (a' := ?_) #[true, true, true, true, true, true, true, true, true, true, true, true, true, true, true, true, true, true, true, true, true, true, true, true, true, true, true, true, true, true, true, true, true, true, true, true, true, true, true, true, true, true, true, true, true, true, true, true, true, true, true, true, true, true, true, true] rfl rfl (any_of HT_.out (by kernel_rfl)) (fun _ _ _ h => h) (Or.inl ⟨by rfl, ?_⟩) ?_ ?_
         rotate_left
         ·intro w'
          go_simp
          with_reducible rfl
         rotate_left
         ·exact pt_
         refine done_ (done_of HT_.out (by kernel_rfl)) ?_
         try go_wp2
         go_ret
         exact ⟨rf_, bw_ HB.out⟩
        ·rw [if_neg c25] at H
         have c25b0 : (t916 == t917) = false := beq_eq_false_iff_ne.mpr c25
         have c25b1 : (t916 != t917) = true := bne_iff_ne.mpr c25
         exact absurd ((Option.some.inj H).trans HRT_.out) (by simp)
       ·rw [if_neg c22] at H
        have c22b0 : (t908 == t912 && (t909 == t913 && (t910 == t914 && (t911 == t915)))) = false := by simpa using c22
        (try (have c22b1 : decide (t908 = t912 && (t909 == t913 && (t910 == t914 && (t911 == t915)))) = false := by simpa using c22))
        (try (have c22b2 : (t908 == t912 && (t909 == t913 && (t910 == t914 && (t911 == t915)))) = false := by simpa using c22))
        (try (have c22b3 : ¬ (t908 = t912 && (t909 == t913 && (t910 == t914 && (t911 == t915)))) := by simpa using c22))
        clear c22
        exact absurd ((Option.some.inj H).trans HRT_.out) (by simp)
      ·rw [if_neg c19] at H
       have c19b0 : (t900 == t904 && (t901 == t905 && (t902 == t906 && (t903 == t907)))) = false := by simpa using c19
       (try (have c19b1 : decide (t900 = t904 && (t901 == t905 && (t902 == t906 && (t903 == t907)))) = false := by simpa using c19))
       (try (have c19b2 : (t900 == t904 && (t901 == t905 && (t902 == t906 && (t903 == t907)))) = false := by simpa using c19))
       (try (have c19b3 : ¬ (t900 = t904 && (t901 == t905 && (t902 == t906 && (t903 == t907)))) := by simpa using c19))
       clear c19
       exact absurd ((Option.some.inj H).trans HRT_.out) (by simp)
     ·rw [if_neg c16] at H
      have c16b0 : (t898 == t899) = false := beq_eq_false_iff_ne.mpr c16
      have c16b1 : (t898 != t899) = true := bne_iff_ne.mpr c16
      exact absurd ((Option.some.inj H).trans HRT_.out) (by simp)
    ·rw [if_neg c13] at H
     have c13b0 : (t896 == t897) = false := by simpa using c13
     (try (have c13b1 : decide (t896 = t897) = false := by simpa using c13))
     (try (have c13b2 : (t896 == t897) = false := by simpa using c13))
     (try (have c13b3 : ¬ (t896 = t897) := by simpa using c13))
     clear c13
     exact absurd ((Option.some.inj H).trans HRT_.out) (by simp)
   ·rw [if_neg c10] at H
    have c10b0 : (t886 == t893) = false := by simpa using c10
    (try (have c10b1 : decide (t886 = t893) = false := by simpa using c10))
    (try (have c10b2 : (t886 == t893) = false := by simpa using c10))
    (try (have c10b3 : ¬ (t886 = t893) := by simpa using c10))
    clear c10
    exact absurd ((Option.some.inj H).trans HRT_.out) (by simp)
  ·replace c9 := Bool.eq_false_iff.mpr c9
   subst c9
   have H1 : (some false) = some r := by rw [if_neg (show ¬ (false = true) by decide)] at H; exact H
   clear H
   have H := H1
   clear H1
   exact absurd ((Option.some.inj H).trans HRT_.out) (by simp)
 ·replace c8 := Bool.eq_false_iff.mpr c8
  subst c8
  have H1 : (some false) = some r := by rw [if_neg (show ¬ (false = true) by decide)] at H; exact H
  clear H
  have H := H1
  clear H1
  exact absurd ((Option.some.inj H).trans HRT_.out) (by simp)


end Go.Proofs.YtkemnoejpbknhaaDoor.PA
