-- Laid by this work's own program; Lean checks it.
import Derived.Test.YtkemnoejpbknhaaDoorPAx0
import Derived.Test.YtkemnoejpbknhaaDoorPAx1
import Derived.Test.YtkemnoejpbknhaaDoorPAx2
import Derived.Test.YtkemnoejpbknhaaDoorPAx6
import Derived.Test.YtkemnoejpbknhaaDoorPAx18
import Derived.Test.YtkemnoejpbknhaaDoorPAx24
import Derived.Test.YtkemnoejpbknhaaDoorPAx26
namespace Go.Proofs.YtkemnoejpbknhaaDoor.PA
open Go.RowKit Go.Proofs.YtkemnoejpbknhaaDoorW.PrintWords Go.Proofs.YtkemnoejpbknhaaDoorW.PrintLast Go.Proofs.YtkemnoejpbknhaaDoorW.PrintMore
attribute [local go_sem] max2_int min2_int max_two min_two max_three min_three max_four min_four   -- for this text's walks alone
set_option linter.unusedVariables false
set_option linter.unusedSimpArgs false

attribute [local go_sem ↓ high] isSome_set_
attribute [local go_sem high] eqA30
/-! ### peloruslaw05_NumLeast: function 5 -/
set_option maxHeartbeats 8000000 in
set_option maxRecDepth 100000 in
theorem peloruslaw05_NumLeast.calls (k : Nat) (A0 : Option Addr) (c0 : Nat) (l0 : List (S30)) (a1 : Int) (r : Bool) (w : World) (hr0 : Kd.C k30 w A0 l0.length l0) (hc0 : l0.length ≤ c0) (hr_ : r = true) (haw_ : ∀ r, peloruslaw05_awake.f k = some r → r = true) (h : peloruslaw05_NumLeast.f k l0 a1 = some r) (htab_ : Kd.C (Kd.int .u8) w (some ⟨0, 0, none⟩) 32 tz32tab) :
  Calls Tryd.prog 5 #[.slice A0 l0.length c0, .int .i64 a1] w fun e w' => e = .returned (.bool r) ∧ Below w.heap.size w w' := by
 have HTAB := Aside0.mk htab_
 clear htab_
 have HRT_ := Aside0.mk hr_
 clear hr_
 have HAW_ := Aside0.mk haw_
 clear haw_
 have HR0 := Aside0.mk hr0
 have HC0 := Aside0.mk hc0
 clear hr0 hc0
 have HB := Aside0.mk (Below.refl w.heap.size w)
 have H : ((peloruslaw05_awake.f k).bind fun t649 => (if (l0.length : Int) > 100 then (some t649) else (if t649 = true then ((num_Least.f k l0).bind fun bt650 => ((pelorusref05_Least.f k l0).bind fun bt654 => (if (bt650.1 == bt654.1 && (bt650.2.1 == bt654.2.1 && (bt650.2.2.1 == bt654.2.2.1 && (bt650.2.2.2 == bt654.2.2.2)))) = true then ((num_Most.f k l0).bind fun bt658 => ((pelorusref05_Most.f k l0).bind fun bt662 => (if (bt658.1 == bt662.1 && (bt658.2.1 == bt662.2.1 && (bt658.2.2.1 == bt662.2.2.1 && (bt658.2.2.2 == bt662.2.2.2)))) = true then ((num_Of.f k a1).bind fun bt666 => ((pelorusref05_Of.f k a1).bind fun bt670 => (some (bt666.1 == bt670.1 && (bt666.2.1 == bt670.2.1 && (bt666.2.2.1 == bt670.2.2.1 && (bt666.2.2.2 == bt670.2.2.2))))))) else (some false)))) else (some false)))) else (some false)))) = some r := h
 clear h
 replace H := Option.bind_eq_some_iff.mp H
 obtain ⟨t649, A30, H⟩ := H
 (try dsimp only at H)
 have A3 := Aside0.mk A30
 clear A30
 by_cases c4 : (l0.length : Int) > 100
 ·rw [if_pos c4] at H
  have c4b0 : decide (100 < (l0.length : Int)) = true := decide_eq_true c4
  have c4b1 : decide (100 < l0.length) = true := decide_eq_true (by omega)
  clear c4
  obtain rfl := Option.some.inj H
  go_enter Tryd.func5, Tryd.ntmps5
  go_wp2_with (first | ((with_reducible refine gate_callee (f := 11) rfl ?_); refine gl_ (some 6) Tryd.func11 #[] ?_; (with_reducible refine (peloruslaw05_awake.calls k  t649 _ (HAW_.out _ A3.out) A3.out ?sidet).mono ?_); (case sidet => exact Kd.C_below HTAB.out (bw_ HB.out)); rintro e w5 ⟨rfl, hb⟩; refine ⟨_, rfl, ?_⟩; replace HB := bq_ HB hb; (try clear hb); (try clear hb2); (try clear hk); (try clear hi)))
  go_ret
  exact ⟨rf_, bw_ HB.out⟩
 ·rw [if_neg c4] at H
  have c4b0 : decide (100 < (l0.length : Int)) = false := decide_eq_false c4
  have c4b1 : decide (100 < l0.length) = false := decide_eq_false (by omega)
  clear c4
  by_cases c6 : t649 = true
  ·subst c6
   have H1 : ((num_Least.f k l0).bind fun bt650 => ((pelorusref05_Least.f k l0).bind fun bt654 => (if (bt650.1 == bt654.1 && (bt650.2.1 == bt654.2.1 && (bt650.2.2.1 == bt654.2.2.1 && (bt650.2.2.2 == bt654.2.2.2)))) = true then ((num_Most.f k l0).bind fun bt658 => ((pelorusref05_Most.f k l0).bind fun bt662 => (if (bt658.1 == bt662.1 && (bt658.2.1 == bt662.2.1 && (bt658.2.2.1 == bt662.2.2.1 && (bt658.2.2.2 == bt662.2.2.2)))) = true then ((num_Of.f k a1).bind fun bt666 => ((pelorusref05_Of.f k a1).bind fun bt670 => (some (bt666.1 == bt670.1 && (bt666.2.1 == bt670.2.1 && (bt666.2.2.1 == bt670.2.2.1 && (bt666.2.2.2 == bt670.2.2.2))))))) else (some false)))) else (some false)))) = some r := by rw [if_pos rfl] at H; exact H
   clear H
   have H := H1
   clear H1
   replace H := Option.bind_eq_some_iff.mp H
   obtain ⟨⟨t650, t651, t652, t653⟩, A70, H⟩ := H
   (try dsimp only at H)
   have A7 := Aside0.mk A70
   clear A70
   replace H := Option.bind_eq_some_iff.mp H
   obtain ⟨⟨t654, t655, t656, t657⟩, A80, H⟩ := H
   (try dsimp only at H)
   have A8 := Aside0.mk A80
   clear A80
   by_cases c9 : (t650 == t654 && (t651 == t655 && (t652 == t656 && (t653 == t657)))) = true
   ·rw [if_pos c9] at H
    have c9b0 : (t650 == t654 && (t651 == t655 && (t652 == t656 && (t653 == t657)))) = true := c9
    (try (have c9b1 : decide (t650 = t654 && (t651 == t655 && (t652 == t656 && (t653 == t657)))) = true := by simpa using c9))
    (try (have c9b2 : (t650 == t654 && (t651 == t655 && (t652 == t656 && (t653 == t657)))) = true := by simpa using c9))
    clear c9
    replace H := Option.bind_eq_some_iff.mp H
    obtain ⟨⟨t658, t659, t660, t661⟩, A100, H⟩ := H
    (try dsimp only at H)
    have A10 := Aside0.mk A100
    clear A100
    replace H := Option.bind_eq_some_iff.mp H
    obtain ⟨⟨t662, t663, t664, t665⟩, A110, H⟩ := H
    (try dsimp only at H)
    have A11 := Aside0.mk A110
    clear A110
    by_cases c12 : (t658 == t662 && (t659 == t663 && (t660 == t664 && (t661 == t665)))) = true
    ·rw [if_pos c12] at H
     have c12b0 : (t658 == t662 && (t659 == t663 && (t660 == t664 && (t661 == t665)))) = true := c12
     (try (have c12b1 : decide (t658 = t662 && (t659 == t663 && (t660 == t664 && (t661 == t665)))) = true := by simpa using c12))
     (try (have c12b2 : (t658 == t662 && (t659 == t663 && (t660 == t664 && (t661 == t665)))) = true := by simpa using c12))
     clear c12
     replace H := Option.bind_eq_some_iff.mp H
     obtain ⟨⟨t666, t667, t668, t669⟩, A130, H⟩ := H
     (try dsimp only at H)
     have A13 := Aside0.mk A130
     clear A130
     replace H := Option.bind_eq_some_iff.mp H
     obtain ⟨⟨t670, t671, t672, t673⟩, A140, H⟩ := H
     (try dsimp only at H)
     have A14 := Aside0.mk A140
     clear A140
     obtain rfl := Option.some.inj H
     go_enter Tryd.func5, Tryd.ntmps5
     go_wp2_with (first | ((with_reducible refine gate_callee (f := 11) rfl ?_); refine gl_ (some 6) Tryd.func11 #[] ?_; (with_reducible refine (peloruslaw05_awake.calls k  true _ (HAW_.out _ A3.out) A3.out ?sidet).mono ?_); (case sidet => exact Kd.C_below HTAB.out (bw_ HB.out)); rintro e w15 ⟨rfl, hb⟩; refine ⟨_, rfl, ?_⟩; replace HB := bq_ HB hb; (try clear hb); (try clear hb2); (try clear hk); (try clear hi)) | (go_at_call 19; (with_reducible refine (num_Least.calls k _ _ l0 t650 t651 t652 t653 _ ?side1 ?side2 A7.out).mono ?_); (case side1 => exact kc_ (Kd.C_below HR0.out HB.out)); (case side2 => exact HC0.out); rintro e w16 ⟨rfl, hb⟩; replace HB := bq_ HB hb; (try clear hb); (try clear hb2); (try clear hk); (try clear hi)) | (go_at_call 20; (with_reducible refine (pelorusref05_Least.calls k _ _ l0 t654 t655 t656 t657 _ ?side1 ?side2 A8.out).mono ?_); (case side1 => exact kc_ (Kd.C_below HR0.out HB.out)); (case side2 => exact HC0.out); rintro e w17 ⟨rfl, hb⟩; replace HB := bq_ HB hb; (try clear hb); (try clear hb2); (try clear hk); (try clear hi)) | (go_at_call 21; (with_reducible refine (num_Most.calls k _ _ l0 t658 t659 t660 t661 _ ?side1 ?side2 A10.out).mono ?_); (case side1 => exact kc_ (Kd.C_below HR0.out HB.out)); (case side2 => exact HC0.out); rintro e w18 ⟨rfl, hb⟩; replace HB := bq_ HB hb; (try clear hb); (try clear hb2); (try clear hk); (try clear hi)) | (go_at_call 22; (with_reducible refine (pelorusref05_Most.calls k _ _ l0 t662 t663 t664 t665 _ ?side1 ?side2 A11.out).mono ?_); (case side1 => exact kc_ (Kd.C_below HR0.out HB.out)); (case side2 => exact HC0.out); rintro e w19 ⟨rfl, hb⟩; replace HB := bq_ HB hb; (try clear hb); (try clear hb2); (try clear hk); (try clear hi)) | (go_at_call 15; (with_reducible refine (num_Of.calls k a1 t666 t667 t668 t669 _ A13.out).mono ?_); rintro e w20 ⟨rfl, hb⟩; replace HB := bq_ HB hb; (try clear hb); (try clear hb2); (try clear hk); (try clear hi)) | (go_at_call 23; (with_reducible refine (pelorusref05_Of.calls k a1 t670 t671 t672 t673 _ A14.out).mono ?_); rintro e w21 ⟨rfl, hb⟩; replace HB := bq_ HB hb; (try clear hb); (try clear hb2); (try clear hk); (try clear hi)))
     go_ret
     exact ⟨rf_, bw_ HB.out⟩
    ·rw [if_neg c12] at H
     have c12b0 : (t658 == t662 && (t659 == t663 && (t660 == t664 && (t661 == t665)))) = false := by simpa using c12
     (try (have c12b1 : decide (t658 = t662 && (t659 == t663 && (t660 == t664 && (t661 == t665)))) = false := by simpa using c12))
     (try (have c12b2 : (t658 == t662 && (t659 == t663 && (t660 == t664 && (t661 == t665)))) = false := by simpa using c12))
     (try (have c12b3 : ¬ (t658 = t662 && (t659 == t663 && (t660 == t664 && (t661 == t665)))) := by simpa using c12))
     clear c12
     exact absurd ((Option.some.inj H).trans HRT_.out) (by simp)
   ·rw [if_neg c9] at H
    have c9b0 : (t650 == t654 && (t651 == t655 && (t652 == t656 && (t653 == t657)))) = false := by simpa using c9
    (try (have c9b1 : decide (t650 = t654 && (t651 == t655 && (t652 == t656 && (t653 == t657)))) = false := by simpa using c9))
    (try (have c9b2 : (t650 == t654 && (t651 == t655 && (t652 == t656 && (t653 == t657)))) = false := by simpa using c9))
    (try (have c9b3 : ¬ (t650 = t654 && (t651 == t655 && (t652 == t656 && (t653 == t657)))) := by simpa using c9))
    clear c9
    exact absurd ((Option.some.inj H).trans HRT_.out) (by simp)
  ·replace c6 := Bool.eq_false_iff.mpr c6
   subst c6
   have H1 : (some false) = some r := by rw [if_neg (show ¬ (false = true) by decide)] at H; exact H
   clear H
   have H := H1
   clear H1
   exact absurd ((Option.some.inj H).trans HRT_.out) (by simp)


end Go.Proofs.YtkemnoejpbknhaaDoor.PA
