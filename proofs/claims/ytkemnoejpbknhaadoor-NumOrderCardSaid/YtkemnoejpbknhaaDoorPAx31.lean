-- Laid by this work's own program; Lean checks it.
import Derived.Test.YtkemnoejpbknhaaDoorPAx0
import Derived.Test.YtkemnoejpbknhaaDoorPAx1
import Derived.Test.YtkemnoejpbknhaaDoorPAx2
import Derived.Test.YtkemnoejpbknhaaDoorPAx10
import Derived.Test.YtkemnoejpbknhaaDoorPAx11
import Derived.Test.YtkemnoejpbknhaaDoorPAx18
import Derived.Test.YtkemnoejpbknhaaDoorPAx26
namespace Go.Proofs.YtkemnoejpbknhaaDoor.PA
open Go.RowKit Go.Proofs.YtkemnoejpbknhaaDoorW.PrintWords Go.Proofs.YtkemnoejpbknhaaDoorW.PrintLast Go.Proofs.YtkemnoejpbknhaaDoorW.PrintMore
attribute [local go_sem] max2_int min2_int max_two min_two max_three min_three max_four min_four   -- for this text's walks alone
set_option linter.unusedVariables false
set_option linter.unusedSimpArgs false

attribute [local go_sem ↓ high] isSome_set_
attribute [local go_sem high] eqA30
/-! ### peloruslaw05_NumOrder: function 7 -/
theorem peloruslaw05_NumOrder.tab6 : rtab .any (opsOf Tryd.f7 6) = peloruslaw05_NumOrder.T6 := by kernel_rfl
theorem peloruslaw05_NumOrder.bits6 : waitsOk peloruslaw05_NumOrder.T6.2 peloruslaw05_NumOrder.B6 = true := by kernel_rfl
def peloruslaw05_NumOrder.T9 : Bool × List (List Nat × List Nat) := (true, [([], []), ([0], [0]), ([1], [1]), ([1, 2], [1, 2]), ([3, 1], [3]), ([4], [4]), ([4], [4]), ([5, 6, 4, 4], [4, 5, 6]), ([7, 4], [4, 7]), ([4, 8], [4, 8]), ([9, 7], [9]), ([10], [10]), ([10], [10]), ([11, 12, 10, 10], [10, 11, 12]), ([13, 10], [10, 13]), ([10, 14], [10, 14]), ([15, 13], [15]), ([16], [16]), ([16], [16]), ([17, 18, 16, 16], [16, 17, 18]), ([19, 16], [16, 19]), ([16, 20], [16, 20]), ([21, 19], [21]), ([22], [22]), ([22], [22]), ([23, 24, 22, 22], [22, 23, 24]), ([25, 22], [22, 25]), ([22, 26], [22, 26]), ([27, 25], [27]), ([28], [28]), ([28], [28]), ([29, 30, 28, 28], [28, 29, 30]), ([31, 28], [28, 31]), ([28, 32], [28, 32]), ([33, 31], [33]), ([34], [34]), ([35, 34, 34], [34, 35]), ([34], [34]), ([37, 36, 34], [34, 37]), ([34], [34]), ([39, 38, 34], [34, 39]), ([34], [34]), ([41, 40, 34], [34, 41]), ([38, 40, 42, 34], [34, 38, 40, 42]), ([43, 42, 34], [34, 43]), ([36, 44, 34], [34, 36, 44]), ([34, 45], [34, 45]), ([46, 44, 0, 1, 2, 3, 4, 5, 6, 7, 8, 9, 10, 11, 12, 13, 14, 15, 16, 17, 18, 19, 20, 21, 22, 23, 24, 25, 26, 27, 28, 29, 30, 31, 32, 33, 34, 35, 36, 37, 38, 39, 40, 41, 42, 43, 44, 45, 46], [46])])
def peloruslaw05_NumOrder.B9 : List Nat := [0, 1, 3, 7, 15, 31, 31, 127, 255, 511, 1023, 2047, 2047, 8191, 16383, 32767, 65535, 131071, 131071, 524287, 1048575, 2097151, 4194303, 8388607, 8388607, 33554431, 67108863, 134217727, 268435455, 536870911, 536870911, 2147483647, 4294967295, 8589934591, 17179869183, 34359738367, 68719476735, 34359738367, 274877906943, 34359738367, 1099511627775, 34359738367, 4398046511103, 8796093022207, 17592186044415, 35184372088831, 70368744177663, 140737488355327]
theorem peloruslaw05_NumOrder.tab9 : rtab .any (opsOf Tryd.f7 9) = peloruslaw05_NumOrder.T9 := by kernel_rfl
theorem peloruslaw05_NumOrder.bits9 : waitsOk peloruslaw05_NumOrder.T9.2 peloruslaw05_NumOrder.B9 = true := by kernel_rfl
set_option maxHeartbeats 8000000 in
set_option maxRecDepth 100000 in
theorem peloruslaw05_NumOrder.calls (k : Nat) (a0_0 : Int) (a0_1 : Bool) (a0_2 : Int) (a0_3 : Int) (a1_0 : Int) (a1_1 : Bool) (a1_2 : Int) (a1_3 : Int) (a2_0 : Int) (a2_1 : Bool) (a2_2 : Int) (a2_3 : Int) (r : Bool) (w : World) (hr_ : r = true) (haw_ : ∀ r, peloruslaw05_awake.f k = some r → r = true) (h : peloruslaw05_NumOrder.f k a0_0 a0_1 a0_2 a0_3 a1_0 a1_1 a1_2 a1_3 a2_0 a2_1 a2_2 a2_3 = some r) (htab_ : Kd.C (Kd.int .u8) w (some ⟨0, 0, none⟩) 32 tz32tab) :
  Calls Tryd.prog 7 #[.agg #[.int .i64 a0_0, .bool a0_1, .int .u64 a0_2, .int .i64 a0_3], .agg #[.int .i64 a1_0, .bool a1_1, .int .u64 a1_2, .int .i64 a1_3], .agg #[.int .i64 a2_0, .bool a2_1, .int .u64 a2_2, .int .i64 a2_3]] w fun e w' => e = .returned (.bool r) ∧ Below w.heap.size w w' := by
 have HTAB := Aside0.mk htab_
 clear htab_
 have HRT_ := Aside0.mk hr_
 clear hr_
 have HAW_ := Aside0.mk haw_
 clear haw_
 have hu30 := Tryd.underlying30
 have HB := Aside0.mk (Below.refl w.heap.size w)
 have H : ((peloruslaw05_awake.f k).bind fun t734 => ((num_Cmp.f a0_0 a0_1 a0_2 a0_3 a1_0 a1_1 a1_2 a1_3).bind fun t735 => ((num_Cmp.f a1_0 a1_1 a1_2 a1_3 a2_0 a2_1 a2_2 a2_3).bind fun t736 => ((num_Least.f k (([(⟨a0_0, a0_1, a0_2, a0_3⟩ : S30), (⟨a1_0, a1_1, a1_2, a1_3⟩ : S30), (⟨a2_0, a2_1, a2_2, a2_3⟩ : S30)] : List (S30)))).bind fun bt740 => ((num_Most.f k (([(⟨a0_0, a0_1, a0_2, a0_3⟩ : S30), (⟨a1_0, a1_1, a1_2, a1_3⟩ : S30), (⟨a2_0, a2_1, a2_2, a2_3⟩ : S30)] : List (S30)))).bind fun bt748 => (if t735 ≤ 0 then (if t736 ≤ 0 then ((num_Cmp.f a0_0 a0_1 a0_2 a0_3 a2_0 a2_1 a2_2 a2_3).bind fun t753 => (if t753 > 0 then (peloruslaw05_NumOrder.j0 k t734 true a0_0 a0_1 a0_2 a0_3 a1_0 a1_1 a1_2 a1_3 a2_0 a2_1 a2_2 a2_3 bt740.1 bt740.2.1 bt740.2.2.1 bt740.2.2.2 bt748.1 bt748.2.1 bt748.2.2.1 bt748.2.2.2) else ((num_Cmp.f a1_0 a1_1 a1_2 a1_3 a0_0 a0_1 a0_2 a0_3).bind fun t754 => (if t754 = (wrap64 (-t735)) then ((num_Neg.f a0_0 a0_1 a0_2 a0_3).bind fun bt755 => ((num_Neg.f a1_0 a1_1 a1_2 a1_3).bind fun bt759 => ((num_Cmp.f bt755.1 bt755.2.1 bt755.2.2.1 bt755.2.2.2 bt759.1 bt759.2.1 bt759.2.2.1 bt759.2.2.2).bind fun t763 => (peloruslaw05_NumOrder.j0 k t734 (t763 != (wrap64 (-t735))) a0_0 a0_1 a0_2 a0_3 a1_0 a1_1 a1_2 a1_3 a2_0 a2_1 a2_2 a2_3 bt740.1 bt740.2.1 bt740.2.2.1 bt740.2.2.2 bt748.1 bt748.2.1 bt748.2.2.1 bt748.2.2.2)))) else (peloruslaw05_NumOrder.j0 k t734 true a0_0 a0_1 a0_2 a0_3 a1_0 a1_1 a1_2 a1_3 a2_0 a2_1 a2_2 a2_3 bt740.1 bt740.2.1 bt740.2.2.1 bt740.2.2.2 bt748.1 bt748.2.1 bt748.2.2.1 bt748.2.2.2))))) else ((num_Cmp.f a1_0 a1_1 a1_2 a1_3 a0_0 a0_1 a0_2 a0_3).bind fun t764 => (if t764 = (wrap64 (-t735)) then ((num_Neg.f a0_0 a0_1 a0_2 a0_3).bind fun bt765 => ((num_Neg.f a1_0 a1_1 a1_2 a1_3).bind fun bt769 => ((num_Cmp.f bt765.1 bt765.2.1 bt765.2.2.1 bt765.2.2.2 bt769.1 bt769.2.1 bt769.2.2.1 bt769.2.2.2).bind fun t773 => (peloruslaw05_NumOrder.j0 k t734 (t773 != (wrap64 (-t735))) a0_0 a0_1 a0_2 a0_3 a1_0 a1_1 a1_2 a1_3 a2_0 a2_1 a2_2 a2_3 bt740.1 bt740.2.1 bt740.2.2.1 bt740.2.2.2 bt748.1 bt748.2.1 bt748.2.2.1 bt748.2.2.2)))) else (peloruslaw05_NumOrder.j0 k t734 true a0_0 a0_1 a0_2 a0_3 a1_0 a1_1 a1_2 a1_3 a2_0 a2_1 a2_2 a2_3 bt740.1 bt740.2.1 bt740.2.2.1 bt740.2.2.2 bt748.1 bt748.2.1 bt748.2.2.1 bt748.2.2.2)))) else ((num_Cmp.f a1_0 a1_1 a1_2 a1_3 a0_0 a0_1 a0_2 a0_3).bind fun t774 => (if t774 = (wrap64 (-t735)) then ((num_Neg.f a0_0 a0_1 a0_2 a0_3).bind fun bt775 => ((num_Neg.f a1_0 a1_1 a1_2 a1_3).bind fun bt779 => ((num_Cmp.f bt775.1 bt775.2.1 bt775.2.2.1 bt775.2.2.2 bt779.1 bt779.2.1 bt779.2.2.1 bt779.2.2.2).bind fun t783 => (peloruslaw05_NumOrder.j0 k t734 (t783 != (wrap64 (-t735))) a0_0 a0_1 a0_2 a0_3 a1_0 a1_1 a1_2 a1_3 a2_0 a2_1 a2_2 a2_3 bt740.1 bt740.2.1 bt740.2.2.1 bt740.2.2.2 bt748.1 bt748.2.1 bt748.2.2.1 bt748.2.2.2)))) else (peloruslaw05_NumOrder.j0 k t734 true a0_0 a0_1 a0_2 a0_3 a1_0 a1_1 a1_2 a1_3 a2_0 a2_1 a2_2 a2_3 bt740.1 bt740.2.1 bt740.2.2.1 bt740.2.2.2 bt748.1 bt748.2.1 bt748.2.2.1 bt748.2.2.2))))))))) = some r := h
 clear h
 replace H := Option.bind_eq_some_iff.mp H
 obtain ⟨t734, A40, H⟩ := H
 (try dsimp only at H)
 have A4 := Aside0.mk A40
 clear A40
 replace H := Option.bind_eq_some_iff.mp H
 obtain ⟨t735, A50, H⟩ := H
 (try dsimp only at H)
 have A5 := Aside0.mk A50
 clear A50
 replace H := Option.bind_eq_some_iff.mp H
 obtain ⟨t736, A60, H⟩ := H
 (try dsimp only at H)
 have A6 := Aside0.mk A60
 clear A60
 obtain ⟨y737, hy737⟩ : ∃ y_ : List (S30), y_ = (([(⟨a0_0, a0_1, a0_2, a0_3⟩ : S30), (⟨a1_0, a1_1, a1_2, a1_3⟩ : S30), (⟨a2_0, a2_1, a2_2, a2_3⟩ : S30)] : List (S30))) := ⟨_, rfl⟩
 replace H : ((num_Least.f k y737).bind fun bt740 => ((num_Most.f k (([(⟨a0_0, a0_1, a0_2, a0_3⟩ : S30), (⟨a1_0, a1_1, a1_2, a1_3⟩ : S30), (⟨a2_0, a2_1, a2_2, a2_3⟩ : S30)] : List (S30)))).bind fun bt748 => (if t735 ≤ 0 then (if t736 ≤ 0 then ((num_Cmp.f a0_0 a0_1 a0_2 a0_3 a2_0 a2_1 a2_2 a2_3).bind fun t753 => (if t753 > 0 then (peloruslaw05_NumOrder.j0 k t734 true a0_0 a0_1 a0_2 a0_3 a1_0 a1_1 a1_2 a1_3 a2_0 a2_1 a2_2 a2_3 bt740.1 bt740.2.1 bt740.2.2.1 bt740.2.2.2 bt748.1 bt748.2.1 bt748.2.2.1 bt748.2.2.2) else ((num_Cmp.f a1_0 a1_1 a1_2 a1_3 a0_0 a0_1 a0_2 a0_3).bind fun t754 => (if t754 = (wrap64 (-t735)) then ((num_Neg.f a0_0 a0_1 a0_2 a0_3).bind fun bt755 => ((num_Neg.f a1_0 a1_1 a1_2 a1_3).bind fun bt759 => ((num_Cmp.f bt755.1 bt755.2.1 bt755.2.2.1 bt755.2.2.2 bt759.1 bt759.2.1 bt759.2.2.1 bt759.2.2.2).bind fun t763 => (peloruslaw05_NumOrder.j0 k t734 (t763 != (wrap64 (-t735))) a0_0 a0_1 a0_2 a0_3 a1_0 a1_1 a1_2 a1_3 a2_0 a2_1 a2_2 a2_3 bt740.1 bt740.2.1 bt740.2.2.1 bt740.2.2.2 bt748.1 bt748.2.1 bt748.2.2.1 bt748.2.2.2)))) else (peloruslaw05_NumOrder.j0 k t734 true a0_0 a0_1 a0_2 a0_3 a1_0 a1_1 a1_2 a1_3 a2_0 a2_1 a2_2 a2_3 bt740.1 bt740.2.1 bt740.2.2.1 bt740.2.2.2 bt748.1 bt748.2.1 bt748.2.2.1 bt748.2.2.2))))) else ((num_Cmp.f a1_0 a1_1 a1_2 a1_3 a0_0 a0_1 a0_2 a0_3).bind fun t764 => (if t764 = (wrap64 (-t735)) then ((num_Neg.f a0_0 a0_1 a0_2 a0_3).bind fun bt765 => ((num_Neg.f a1_0 a1_1 a1_2 a1_3).bind fun bt769 => ((num_Cmp.f bt765.1 bt765.2.1 bt765.2.2.1 bt765.2.2.2 bt769.1 bt769.2.1 bt769.2.2.1 bt769.2.2.2).bind fun t773 => (peloruslaw05_NumOrder.j0 k t734 (t773 != (wrap64 (-t735))) a0_0 a0_1 a0_2 a0_3 a1_0 a1_1 a1_2 a1_3 a2_0 a2_1 a2_2 a2_3 bt740.1 bt740.2.1 bt740.2.2.1 bt740.2.2.2 bt748.1 bt748.2.1 bt748.2.2.1 bt748.2.2.2)))) else (peloruslaw05_NumOrder.j0 k t734 true a0_0 a0_1 a0_2 a0_3 a1_0 a1_1 a1_2 a1_3 a2_0 a2_1 a2_2 a2_3 bt740.1 bt740.2.1 bt740.2.2.1 bt740.2.2.2 bt748.1 bt748.2.1 bt748.2.2.1 bt748.2.2.2)))) else ((num_Cmp.f a1_0 a1_1 a1_2 a1_3 a0_0 a0_1 a0_2 a0_3).bind fun t774 => (if t774 = (wrap64 (-t735)) then ((num_Neg.f a0_0 a0_1 a0_2 a0_3).bind fun bt775 => ((num_Neg.f a1_0 a1_1 a1_2 a1_3).bind fun bt779 => ((num_Cmp.f bt775.1 bt775.2.1 bt775.2.2.1 bt775.2.2.2 bt779.1 bt779.2.1 bt779.2.2.1 bt779.2.2.2).bind fun t783 => (peloruslaw05_NumOrder.j0 k t734 (t783 != (wrap64 (-t735))) a0_0 a0_1 a0_2 a0_3 a1_0 a1_1 a1_2 a1_3 a2_0 a2_1 a2_2 a2_3 bt740.1 bt740.2.1 bt740.2.2.1 bt740.2.2.2 bt748.1 bt748.2.1 bt748.2.2.1 bt748.2.2.2)))) else (peloruslaw05_NumOrder.j0 k t734 true a0_0 a0_1 a0_2 a0_3 a1_0 a1_1 a1_2 a1_3 a2_0 a2_1 a2_2 a2_3 bt740.1 bt740.2.1 bt740.2.2.1 bt740.2.2.2 bt748.1 bt748.2.1 bt748.2.2.1 bt748.2.2.2)))))) = some r := by first | (rw [hy737]; with_reducible exact H) | (have H2_ := (Option.bind_some _ _).symm.trans H; rw [hy737]; with_reducible exact H2_) | (have H2_ := (Option.bind_some _ _).symm.trans H; with_reducible exact H2_) | with_reducible exact H | (rw [hy737]; exact H) | exact H
 have Ny737 := Aside0.mk hy737
 clear hy737
 replace H := Option.bind_eq_some_iff.mp H
 obtain ⟨⟨t740, t741, t742, t743⟩, A70, H⟩ := H
 (try dsimp only at H)
 have A7 := Aside0.mk A70
 clear A70
 obtain ⟨y745, hy745⟩ : ∃ y_ : List (S30), y_ = (([(⟨a0_0, a0_1, a0_2, a0_3⟩ : S30), (⟨a1_0, a1_1, a1_2, a1_3⟩ : S30), (⟨a2_0, a2_1, a2_2, a2_3⟩ : S30)] : List (S30))) := ⟨_, rfl⟩
 replace H : ((num_Most.f k y745).bind fun bt748 => (if t735 ≤ 0 then (if t736 ≤ 0 then ((num_Cmp.f a0_0 a0_1 a0_2 a0_3 a2_0 a2_1 a2_2 a2_3).bind fun t753 => (if t753 > 0 then (peloruslaw05_NumOrder.j0 k t734 true a0_0 a0_1 a0_2 a0_3 a1_0 a1_1 a1_2 a1_3 a2_0 a2_1 a2_2 a2_3 t740 t741 t742 t743 bt748.1 bt748.2.1 bt748.2.2.1 bt748.2.2.2) else ((num_Cmp.f a1_0 a1_1 a1_2 a1_3 a0_0 a0_1 a0_2 a0_3).bind fun t754 => (if t754 = (wrap64 (-t735)) then ((num_Neg.f a0_0 a0_1 a0_2 a0_3).bind fun bt755 => ((num_Neg.f a1_0 a1_1 a1_2 a1_3).bind fun bt759 => ((num_Cmp.f bt755.1 bt755.2.1 bt755.2.2.1 bt755.2.2.2 bt759.1 bt759.2.1 bt759.2.2.1 bt759.2.2.2).bind fun t763 => (peloruslaw05_NumOrder.j0 k t734 (t763 != (wrap64 (-t735))) a0_0 a0_1 a0_2 a0_3 a1_0 a1_1 a1_2 a1_3 a2_0 a2_1 a2_2 a2_3 t740 t741 t742 t743 bt748.1 bt748.2.1 bt748.2.2.1 bt748.2.2.2)))) else (peloruslaw05_NumOrder.j0 k t734 true a0_0 a0_1 a0_2 a0_3 a1_0 a1_1 a1_2 a1_3 a2_0 a2_1 a2_2 a2_3 t740 t741 t742 t743 bt748.1 bt748.2.1 bt748.2.2.1 bt748.2.2.2))))) else ((num_Cmp.f a1_0 a1_1 a1_2 a1_3 a0_0 a0_1 a0_2 a0_3).bind fun t764 => (if t764 = (wrap64 (-t735)) then ((num_Neg.f a0_0 a0_1 a0_2 a0_3).bind fun bt765 => ((num_Neg.f a1_0 a1_1 a1_2 a1_3).bind fun bt769 => ((num_Cmp.f bt765.1 bt765.2.1 bt765.2.2.1 bt765.2.2.2 bt769.1 bt769.2.1 bt769.2.2.1 bt769.2.2.2).bind fun t773 => (peloruslaw05_NumOrder.j0 k t734 (t773 != (wrap64 (-t735))) a0_0 a0_1 a0_2 a0_3 a1_0 a1_1 a1_2 a1_3 a2_0 a2_1 a2_2 a2_3 t740 t741 t742 t743 bt748.1 bt748.2.1 bt748.2.2.1 bt748.2.2.2)))) else (peloruslaw05_NumOrder.j0 k t734 true a0_0 a0_1 a0_2 a0_3 a1_0 a1_1 a1_2 a1_3 a2_0 a2_1 a2_2 a2_3 t740 t741 t742 t743 bt748.1 bt748.2.1 bt748.2.2.1 bt748.2.2.2)))) else ((num_Cmp.f a1_0 a1_1 a1_2 a1_3 a0_0 a0_1 a0_2 a0_3).bind fun t774 => (if t774 = (wrap64 (-t735)) then ((num_Neg.f a0_0 a0_1 a0_2 a0_3).bind fun bt775 => ((num_Neg.f a1_0 a1_1 a1_2 a1_3).bind fun bt779 => ((num_Cmp.f bt775.1 bt775.2.1 bt775.2.2.1 bt775.2.2.2 bt779.1 bt779.2.1 bt779.2.2.1 bt779.2.2.2).bind fun t783 => (peloruslaw05_NumOrder.j0 k t734 (t783 != (wrap64 (-t735))) a0_0 a0_1 a0_2 a0_3 a1_0 a1_1 a1_2 a1_3 a2_0 a2_1 a2_2 a2_3 t740 t741 t742 t743 bt748.1 bt748.2.1 bt748.2.2.1 bt748.2.2.2)))) else (peloruslaw05_NumOrder.j0 k t734 true a0_0 a0_1 a0_2 a0_3 a1_0 a1_1 a1_2 a1_3 a2_0 a2_1 a2_2 a2_3 t740 t741 t742 t743 bt748.1 bt748.2.1 bt748.2.2.1 bt748.2.2.2))))) = some r := by first | (rw [hy745]; with_reducible exact H) | (have H2_ := (Option.bind_some _ _).symm.trans H; rw [hy745]; with_reducible exact H2_) | (have H2_ := (Option.bind_some _ _).symm.trans H; with_reducible exact H2_) | with_reducible exact H | (rw [hy745]; exact H) | exact H
 have Ny745 := Aside0.mk hy745
 clear hy745
 replace H := Option.bind_eq_some_iff.mp H
 obtain ⟨⟨t748, t749, t750, t751⟩, A80, H⟩ := H
 (try dsimp only at H)
 have A8 := Aside0.mk A80
 clear A80
 have HC9 := Aside0.mk H
 clear H
 go_enter Tryd.func7, Tryd.ntmps7
 go_upto_region 6 with (first | ((with_reducible refine gate_dst (N := 3) rfl ?_); (try (refine gate_guard (by rfl) ?_; dsimp only)); refine bx_ 3 #[.int .i64 a0_0, .bool a0_1, .int .u64 a0_2, .int .i64 a0_3] 30 ?_; intro gb731 hg w10 hbox hb; have BK731 := Aside0.mk (hbox); have GW731 := ge_ hg HB; have GE731 := ge_ hg HB; replace HB := bq_ HB hb; clear hb hbox hg) | ((with_reducible refine gate_dst (N := 4) rfl ?_); (try (refine gate_guard (by rfl) ?_; dsimp only)); refine bx_ 4 #[.int .i64 a1_0, .bool a1_1, .int .u64 a1_2, .int .i64 a1_3] 30 ?_; intro gb732 hg w11 hbox hb; have BK732 := Aside0.mk (hbox); have GW732 := ge_ hg HB; have GE732 := ge_ hg HB; have NB731_732 := nb_ hg BK731; have NB732_731 := nc_ hg BK731; replace BK731 := kq_ BK731 hb; replace HB := bq_ HB hb; clear hb hbox hg) | ((with_reducible refine gate_dst (N := 5) rfl ?_); (try (refine gate_guard (by rfl) ?_; dsimp only)); refine bx_ 5 #[.int .i64 a2_0, .bool a2_1, .int .u64 a2_2, .int .i64 a2_3] 30 ?_; intro gb733 hg w12 hbox hb; have BK733 := Aside0.mk (hbox); have GW733 := ge_ hg HB; have GE733 := ge_ hg HB; have NB731_733 := nb_ hg BK731; have NB733_731 := nc_ hg BK731; have NB732_733 := nb_ hg BK732; have NB733_732 := nc_ hg BK732; replace BK731 := kq_ BK731 hb; replace BK732 := kq_ BK732 hb; replace HB := bq_ HB hb; clear hb hbox hg) | ((with_reducible refine gate_callee (f := 11) rfl ?_); refine gl_ (some 13) Tryd.func11 #[] ?_; (with_reducible refine (peloruslaw05_awake.calls k  t734 _ (HAW_.out _ A4.out) A4.out ?sidet).mono ?_); (case sidet => exact Kd.C_below HTAB.out (bw_ HB.out)); rintro e w13 ⟨rfl, hb⟩; refine ⟨_, rfl, ?_⟩; replace BK731 := kq_ BK731 hb; replace BK732 := kq_ BK732 hb; replace BK733 := kq_ BK733 hb; replace HB := bq_ HB hb; (try clear hb); (try clear hb2); (try clear hk); (try clear hi); have hnb14 := NB731_732.out; have hnc14 := NB732_731.out; have hnb15 := NB731_733.out; have hnc15 := NB733_731.out; obtain ⟨hcz16_0, hcz16_1, hcz16_2, hcz16_3, hfz16_0, hfz16_1, hfz16_2, hfz16_3⟩ := c4_ BK731; have hnb17 := NB732_733.out; have hnc17 := NB733_732.out; obtain ⟨hcz18_0, hcz18_1, hcz18_2, hcz18_3, hfz18_0, hfz18_1, hfz18_2, hfz18_3⟩ := c4_ BK732) | ((with_reducible refine gate_callee (f := 17) rfl ?_); refine gl_ (some 16) Tryd.func17 #[.agg #[.int .i64 a0_0, .bool a0_1, .int .u64 a0_2, .int .i64 a0_3], .agg #[.int .i64 a1_0, .bool a1_1, .int .u64 a1_2, .int .i64 a1_3]] ?_; (with_reducible refine (num_Cmp.calls a0_0 a0_1 a0_2 a0_3 a1_0 a1_1 a1_2 a1_3 t735 _ A5.out).mono ?_); rintro e w19 ⟨rfl, hb⟩; refine ⟨_, rfl, ?_⟩; replace BK731 := kq_ BK731 hb; replace BK732 := kq_ BK732 hb; replace BK733 := kq_ BK733 hb; replace HB := bq_ HB hb; (try clear hb); (try clear hb2); (try clear hk); (try clear hi); obtain ⟨hcz20_0, hcz20_1, hcz20_2, hcz20_3, hfz20_0, hfz20_1, hfz20_2, hfz20_3⟩ := c4_ BK732; obtain ⟨hcz21_0, hcz21_1, hcz21_2, hcz21_3, hfz21_0, hfz21_1, hfz21_2, hfz21_3⟩ := c4_ BK733) | ((with_reducible refine gate_callee (f := 17) rfl ?_); refine gl_ (some 19) Tryd.func17 #[.agg #[.int .i64 a1_0, .bool a1_1, .int .u64 a1_2, .int .i64 a1_3], .agg #[.int .i64 a2_0, .bool a2_1, .int .u64 a2_2, .int .i64 a2_3]] ?_; (with_reducible refine (num_Cmp.calls a1_0 a1_1 a1_2 a1_3 a2_0 a2_1 a2_2 a2_3 t736 _ A6.out).mono ?_); rintro e w22 ⟨rfl, hb⟩; refine ⟨_, rfl, ?_⟩; replace BK731 := kq_ BK731 hb; replace BK732 := kq_ BK732 hb; replace BK733 := kq_ BK733 hb; replace HB := bq_ HB hb; (try clear hb); (try clear hb2); (try clear hk); (try clear hi); obtain ⟨hcz23_0, hcz23_1, hcz23_2, hcz23_3, hfz23_0, hfz23_1, hfz23_2, hfz23_3⟩ := c4_ BK731; obtain ⟨hcz24_0, hcz24_1, hcz24_2, hcz24_3, hfz24_0, hfz24_1, hfz24_2, hfz24_3⟩ := c4_ BK732; obtain ⟨hcz25_0, hcz25_1, hcz25_2, hcz25_3, hfz25_0, hfz25_1, hfz25_2, hfz25_3⟩ := c4_ BK733) | ((with_reducible refine gate_dst (N := 23) rfl ?_); (try (refine gate_guard (by rfl) ?_; dsimp only)); refine Kd.R_lit k30 _ 30 ?hg (N := 23) ?hd (xs := ([(⟨a0_0, a0_1, a0_2, a0_3⟩ : S30), (⟨a1_0, a1_1, a1_2, a1_3⟩ : S30), (⟨a2_0, a2_1, a2_2, a2_3⟩ : S30)] : List (S30))) (inner := [.int .i64 a0_0, .bool a0_1, .int .u64 a0_2, .int .i64 a0_3, .int .i64 a1_0, .bool a1_1, .int .u64 a1_2, .int .i64 a1_3, .int .i64 a2_0, .bool a2_1, .int .u64 a2_2, .int .i64 a2_3]) (ok := fun _ => True) (okp := fun _ => True) ?hr ?hp (fun _ hk => hk) trivial (Below.refl _ _) (Nat.le_refl _) (by simp) ?_; (case hd => rfl); (case hg => rfl); (case hr => first | (go_simp; done) | (go_simp; rfl)); (case hp => exact (Reps.c4 (show Kd.M k30 _ _ _ (⟨a0_0, a0_1, a0_2, a0_3⟩ : S30) [.int .i64 a0_0, .bool a0_1, .int .u64 a0_2, .int .i64 a0_3] from (k30_mkM _ _ _ (⟨a0_0, a0_1, a0_2, a0_3⟩ : S30) )) (Reps.c4 (show Kd.M k30 _ _ _ (⟨a1_0, a1_1, a1_2, a1_3⟩ : S30) [.int .i64 a1_0, .bool a1_1, .int .u64 a1_2, .int .i64 a1_3] from (k30_mkM _ _ _ (⟨a1_0, a1_1, a1_2, a1_3⟩ : S30) )) (Reps.c4 (show Kd.M k30 _ _ _ (⟨a2_0, a2_1, a2_2, a2_3⟩ : S30) [.int .i64 a2_0, .bool a2_1, .int .u64 a2_2, .int .i64 a2_3] from (k30_mkM _ _ _ (⟨a2_0, a2_1, a2_2, a2_3⟩ : S30) )) (Reps.none _ _))))); intro v738 w26 ho27 hb hg_ hnew_; clear hg_ hnew_; (first | rw [← Ny737.out] at ho27 | (simp only [Int.reduceToNat] at ho27; rw [← Ny737.out] at ho27)); have HO739 := Aside0.mk (Kd.R_lower (Kd.R_newB (Kd.R_newB (Kd.R_newB ho27 (g := gb731) (o := .cells #[.int .i64 a0_0, .bool a0_1, .int .u64 a0_2, .int .i64 a0_3] 30 (0, 0)) (kb_ BK731.out)) (g := gb732) (o := .cells #[.int .i64 a1_0, .bool a1_1, .int .u64 a1_2, .int .i64 a1_3] 30 (0, 0)) (kb_ BK732.out)) (g := gb733) (o := .cells #[.int .i64 a2_0, .bool a2_1, .int .u64 a2_2, .int .i64 a2_3] 30 (0, 0)) (kb_ BK733.out)) (below_size (bw_ HB.out))); replace BK731 := kq_ BK731 hb; replace BK732 := kq_ BK732 hb; replace BK733 := kq_ BK733 hb; replace HB := bq_ HB hb; clear hb ho27; obtain ⟨Ao28, co28, eo28⟩ := Kd.R_slice HO739.out; subst eo28) | ((with_reducible refine gate_callee (f := 19) rfl ?_); refine gl_ (some 24) Tryd.func19 #[.slice Ao28 y737.length co28] ?_; (with_reducible refine (num_Least.calls k _ _ y737 t740 t741 t742 t743 _ ?side1 ?side2 A7.out).mono ?_); (case side1 => exact kc_ (Kd.R_reads' HO739.out).2.2); (case side2 => exact (Kd.R_reads' HO739.out).2.1); rintro e w29 ⟨rfl, hb⟩; refine ⟨_, rfl, ?_⟩; replace HO739 := Aside0.mk (Kd.R_below (kr_ HO739.out) hb); replace BK731 := kq_ BK731 hb; replace BK732 := kq_ BK732 hb; replace BK733 := kq_ BK733 hb; replace HB := bq_ HB hb; (try clear hb); (try clear hb2); (try clear hk); (try clear hi)) | ((with_reducible refine gate_dst (N := 10) rfl ?_); (try (refine gate_guard (by rfl) ?_; dsimp only)); refine bx_ 10 #[.int .i64 0, .bool false, .int .u64 0, .int .i64 0] 30 ?_; intro gb744 hg w30 hbox hb; have BK744 := Aside0.mk (hbox); have GW744 := ge_ hg HB; have GE744 := ge_ hg HB; have NB731_744 := nb_ hg BK731; have NB744_731 := nc_ hg BK731; have NB732_744 := nb_ hg BK732; have NB744_732 := nc_ hg BK732; have NB733_744 := nb_ hg BK733; have NB744_733 := nc_ hg BK733; replace HO739 := Aside0.mk (Kd.R_below (Kd.R_elderB (kr_ HO739.out) gb744 (Nat.le_of_eq hg.symm)) hb); replace BK731 := kq_ BK731 hb; replace BK732 := kq_ BK732 hb; replace BK733 := kq_ BK733 hb; replace HB := bq_ HB hb; clear hb hbox hg; have hnb31 := NB744_731.out; have hnc31 := NB731_744.out; have hnb32 := NB744_732.out; have hnc32 := NB732_744.out; have hnb33 := NB744_733.out; have hnc33 := NB733_744.out; obtain ⟨hcz34_0, hcz34_1, hcz34_2, hcz34_3, hfz34_0, hfz34_1, hfz34_2, hfz34_3⟩ := c4_ BK744; obtain ⟨hcz35_0, hcz35_1, hcz35_2, hcz35_3, hfz35_0, hfz35_1, hfz35_2, hfz35_3⟩ := c4_ BK731; obtain ⟨hcz36_0, hcz36_1, hcz36_2, hcz36_3, hfz36_0, hfz36_1, hfz36_2, hfz36_3⟩ := c4_ BK732; obtain ⟨hcz37_0, hcz37_1, hcz37_2, hcz37_3, hfz37_0, hfz37_1, hfz37_2, hfz37_3⟩ := c4_ BK733) | ((with_reducible refine gate_dst (N := 28) rfl ?_); (try (refine gate_guard (by rfl) ?_; dsimp only)); refine Kd.R_lit k30 _ 30 ?hg (N := 28) ?hd (xs := ([(⟨a0_0, a0_1, a0_2, a0_3⟩ : S30), (⟨a1_0, a1_1, a1_2, a1_3⟩ : S30), (⟨a2_0, a2_1, a2_2, a2_3⟩ : S30)] : List (S30))) (inner := [.int .i64 a0_0, .bool a0_1, .int .u64 a0_2, .int .i64 a0_3, .int .i64 a1_0, .bool a1_1, .int .u64 a1_2, .int .i64 a1_3, .int .i64 a2_0, .bool a2_1, .int .u64 a2_2, .int .i64 a2_3]) (ok := fun _ => True) (okp := fun _ => True) ?hr ?hp (fun _ hk => hk) trivial (Below.refl _ _) (Nat.le_refl _) (by simp) ?_; (case hd => rfl); (case hg => rfl); (case hr => first | (go_simp; done) | (go_simp; rfl)); (case hp => exact (Reps.c4 (show Kd.M k30 _ _ _ (⟨a0_0, a0_1, a0_2, a0_3⟩ : S30) [.int .i64 a0_0, .bool a0_1, .int .u64 a0_2, .int .i64 a0_3] from (k30_mkM _ _ _ (⟨a0_0, a0_1, a0_2, a0_3⟩ : S30) )) (Reps.c4 (show Kd.M k30 _ _ _ (⟨a1_0, a1_1, a1_2, a1_3⟩ : S30) [.int .i64 a1_0, .bool a1_1, .int .u64 a1_2, .int .i64 a1_3] from (k30_mkM _ _ _ (⟨a1_0, a1_1, a1_2, a1_3⟩ : S30) )) (Reps.c4 (show Kd.M k30 _ _ _ (⟨a2_0, a2_1, a2_2, a2_3⟩ : S30) [.int .i64 a2_0, .bool a2_1, .int .u64 a2_2, .int .i64 a2_3] from (k30_mkM _ _ _ (⟨a2_0, a2_1, a2_2, a2_3⟩ : S30) )) (Reps.none _ _))))); intro v746 w38 ho39 hb hg_ hnew_; clear hg_ hnew_; (first | rw [← Ny745.out] at ho39 | (simp only [Int.reduceToNat] at ho39; rw [← Ny745.out] at ho39)); have n0_ := Aside0.mk (Kd.R_elder' (kr_ ((Kd.R_mono (Kd.R_far (p := ⟨gb744, 3, none⟩) (Kd.R_far (p := ⟨gb744, 2, none⟩) (Kd.R_far (p := ⟨gb744, 1, none⟩) (Kd.R_far (p := ⟨gb744, 0, none⟩) (Kd.R_mono HO739.out (fun k_ hk => (⟨hk, hk.2⟩ : _ ∧ k_ ≠ gb744))) (fun _ hk => hk.2) (.int .i64 t740)) (fun _ hk => hk.2) (.bool t741)) (fun _ hk => hk.2) (.int .u64 t742)) (fun _ hk => hk.2) (.int .i64 t743)) (fun _ h_ => h_.1)))) (Kd.R_base ho39) hb); have n1_ := Aside0.mk (Kd.R_lower (Kd.R_newB (Kd.R_newB (Kd.R_newB (Kd.R_newB (Kd.R_new' ho39 (Kd.R_lt (kr_ ((Kd.R_mono (Kd.R_far (p := ⟨gb744, 3, none⟩) (Kd.R_far (p := ⟨gb744, 2, none⟩) (Kd.R_far (p := ⟨gb744, 1, none⟩) (Kd.R_far (p := ⟨gb744, 0, none⟩) (Kd.R_mono HO739.out (fun k_ hk => (⟨hk, hk.2⟩ : _ ∧ k_ ≠ gb744))) (fun _ hk => hk.2) (.int .i64 t740)) (fun _ hk => hk.2) (.bool t741)) (fun _ hk => hk.2) (.int .u64 t742)) (fun _ hk => hk.2) (.int .i64 t743)) (fun _ h_ => h_.1)))))) (g := gb731) (o := .cells #[.int .i64 a0_0, .bool a0_1, .int .u64 a0_2, .int .i64 a0_3] 30 (0, 0)) (by refine kb_ ?_; refine bf_ NB731_744 ?_; refine bf_ NB731_744 ?_; refine bf_ NB731_744 ?_; refine bf_ NB731_744 ?_; exact BK731.out)) (g := gb732) (o := .cells #[.int .i64 a1_0, .bool a1_1, .int .u64 a1_2, .int .i64 a1_3] 30 (0, 0)) (by refine kb_ ?_; refine bf_ NB732_744 ?_; refine bf_ NB732_744 ?_; refine bf_ NB732_744 ?_; refine bf_ NB732_744 ?_; exact BK732.out)) (g := gb733) (o := .cells #[.int .i64 a2_0, .bool a2_1, .int .u64 a2_2, .int .i64 a2_3] 30 (0, 0)) (by refine kb_ ?_; refine bf_ NB733_744 ?_; refine bf_ NB733_744 ?_; refine bf_ NB733_744 ?_; refine bf_ NB733_744 ?_; exact BK733.out)) (g := gb744) (o := .cells #[.int .i64 t740, .bool t741, .int .u64 t742, .int .i64 t743] 30 (0, 0)) (by refine kb_ ?_; refine bp_ #[.int .i64 t740, .bool t741, .int .u64 t742, .int .i64 0] 3 ?_; refine bp_ #[.int .i64 t740, .bool t741, .int .u64 0, .int .i64 0] 2 ?_; refine bp_ #[.int .i64 t740, .bool false, .int .u64 0, .int .i64 0] 1 ?_; refine bp_ #[.int .i64 0, .bool false, .int .u64 0, .int .i64 0] 0 ?_; exact BK744.out)) (below_size (bw_ HB.out))); have n2_ := Aside0.mk (blk_below (g := gb731) (o := .cells #[.int .i64 a0_0, .bool a0_1, .int .u64 a0_2, .int .i64 a0_3] 30 (0, 0)) (by refine kb_ ?_; refine bf_ NB731_744 ?_; refine bf_ NB731_744 ?_; refine bf_ NB731_744 ?_; refine bf_ NB731_744 ?_; exact BK731.out) hb); have n3_ := Aside0.mk (blk_below (g := gb732) (o := .cells #[.int .i64 a1_0, .bool a1_1, .int .u64 a1_2, .int .i64 a1_3] 30 (0, 0)) (by refine kb_ ?_; refine bf_ NB732_744 ?_; refine bf_ NB732_744 ?_; refine bf_ NB732_744 ?_; refine bf_ NB732_744 ?_; exact BK732.out) hb); have n4_ := Aside0.mk (blk_below (g := gb733) (o := .cells #[.int .i64 a2_0, .bool a2_1, .int .u64 a2_2, .int .i64 a2_3] 30 (0, 0)) (by refine kb_ ?_; refine bf_ NB733_744 ?_; refine bf_ NB733_744 ?_; refine bf_ NB733_744 ?_; refine bf_ NB733_744 ?_; exact BK733.out) hb); have n5_ := Aside0.mk (blk_below (g := gb744) (o := .cells #[.int .i64 t740, .bool t741, .int .u64 t742, .int .i64 t743] 30 (0, 0)) (by refine kb_ ?_; refine bp_ #[.int .i64 t740, .bool t741, .int .u64 t742, .int .i64 0] 3 ?_; refine bp_ #[.int .i64 t740, .bool t741, .int .u64 0, .int .i64 0] 2 ?_; refine bp_ #[.int .i64 t740, .bool false, .int .u64 0, .int .i64 0] 1 ?_; refine bp_ #[.int .i64 0, .bool false, .int .u64 0, .int .i64 0] 0 ?_; exact BK744.out) hb); have n6_ := bq_ HB hb; clear HO739; clear BK731; clear BK732; clear BK733; clear BK744; clear HB; have HO739 := n0_; have HO747 := n1_; have BK731 := n2_; have BK732 := n3_; have BK733 := n4_; have BK744 := n5_; have HB := n6_; clear n0_ n1_ n2_ n3_ n4_ n5_ n6_; clear hb ho39; obtain ⟨Ao40, co40, eo40⟩ := Kd.R_slice HO747.out; subst eo40) | ((with_reducible refine gate_callee (f := 21) rfl ?_); refine gl_ (some 29) Tryd.func21 #[.slice Ao40 y745.length co40] ?_; (with_reducible refine (num_Most.calls k _ _ y745 t748 t749 t750 t751 _ ?side1 ?side2 A8.out).mono ?_); (case side1 => exact kc_ (Kd.R_reads' HO747.out).2.2); (case side2 => exact (Kd.R_reads' HO747.out).2.1); rintro e w41 ⟨rfl, hb⟩; refine ⟨_, rfl, ?_⟩; replace HO739 := Aside0.mk (Kd.R_below (kr_ HO739.out) hb); replace HO747 := Aside0.mk (Kd.R_below (kr_ HO747.out) hb); replace BK731 := kq_ BK731 hb; replace BK732 := kq_ BK732 hb; replace BK733 := kq_ BK733 hb; replace BK744 := kq_ BK744 hb; replace HB := bq_ HB hb; (try clear hb); (try clear hb2); (try clear hk); (try clear hi)) | ((with_reducible refine gate_dst (N := 11) rfl ?_); (try (refine gate_guard (by rfl) ?_; dsimp only)); refine bx_ 11 #[.int .i64 0, .bool false, .int .u64 0, .int .i64 0] 30 ?_; intro gb752 hg w42 hbox hb; have BK752 := Aside0.mk (hbox); have GW752 := ge_ hg HB; have GE752 := ge_ hg HB; have NB731_752 := nb_ hg BK731; have NB752_731 := nc_ hg BK731; have NB732_752 := nb_ hg BK732; have NB752_732 := nc_ hg BK732; have NB733_752 := nb_ hg BK733; have NB752_733 := nc_ hg BK733; have NB744_752 := nb_ hg BK744; have NB752_744 := nc_ hg BK744; replace HO739 := Aside0.mk (Kd.R_below (Kd.R_elderB (kr_ HO739.out) gb752 (Nat.le_of_eq hg.symm)) hb); replace HO747 := Aside0.mk (Kd.R_below (Kd.R_elderB (kr_ HO747.out) gb752 (Nat.le_of_eq hg.symm)) hb); replace BK731 := kq_ BK731 hb; replace BK732 := kq_ BK732 hb; replace BK733 := kq_ BK733 hb; replace BK744 := kq_ BK744 hb; replace HB := bq_ HB hb; clear hb hbox hg; have hnb43 := NB752_731.out; have hnc43 := NB731_752.out; have hnb44 := NB752_732.out; have hnc44 := NB732_752.out; have hnb45 := NB752_733.out; have hnc45 := NB733_752.out; have hnb46 := NB752_744.out; have hnc46 := NB744_752.out; obtain ⟨hcz47_0, hcz47_1, hcz47_2, hcz47_3, hfz47_0, hfz47_1, hfz47_2, hfz47_3⟩ := c4_ BK752))
 (try simp only [Act.put, List.setIfInBounds_toArray, List.set_cons_zero, List.set_cons_succ])
 go_cut [59] (fun v59 wc => ∃ (kq : Nat) (x59_8 : Bool), v59 = .bool x59_8 ∧ Aside0 (peloruslaw05_NumOrder.j0 kq t734 x59_8 a0_0 a0_1 a0_2 a0_3 a1_0 a1_1 a1_2 a1_3 a2_0 a2_1 a2_2 a2_3 t740 t741 t742 t743 t748 t749 t750 t751 = some r) ∧ Aside0 (kq ≤ k) ∧ Aside0 (wc.heap[gb731]? = some (.cells #[.int .i64 a0_0, .bool a0_1, .int .u64 a0_2, .int .i64 a0_3] 30 (0, 0))) ∧ Aside0 (wc.heap[gb732]? = some (.cells #[.int .i64 a1_0, .bool a1_1, .int .u64 a1_2, .int .i64 a1_3] 30 (0, 0))) ∧ Aside0 (wc.heap[gb733]? = some (.cells #[.int .i64 a2_0, .bool a2_1, .int .u64 a2_2, .int .i64 a2_3] 30 (0, 0))) ∧ Aside0 (wc.heap[gb744]? = some (.cells #[.int .i64 t740, .bool t741, .int .u64 t742, .int .i64 t743] 30 (0, 0))) ∧ Aside0 (wc.heap[gb752]? = some (.cells #[.int .i64 t748, .bool t749, .int .u64 t750, .int .i64 t751] 30 (0, 0))) ∧ Aside0 (Below w.heap.size w wc))
 case first =>
  have H := HC9.out
  clear HC9
  by_cases c48 : t735 ≤ 0
  ·rw [if_pos c48] at H
   have c48b0 : decide (t735 ≤ 0) = true := decide_eq_true c48
   clear c48
   (first | rw [c48b0] | (simp only [i64_w, i32_w]; rw [c48b0]) | skip)
   by_cases c49 : t736 ≤ 0
   ·rw [if_pos c49] at H
    have c49b0 : decide (t736 ≤ 0) = true := decide_eq_true c49
    clear c49
    replace H := Option.bind_eq_some_iff.mp H
    obtain ⟨t753, A500, H⟩ := H
    (try dsimp only at H)
    have A50 := Aside0.mk A500
    clear A500
    by_cases c51 : t753 > 0
    ·rw [if_pos c51] at H
     have c51b0 : decide (0 < t753) = true := decide_eq_true c51
     clear c51
     have H' := Aside0.mk H
     clear H
     try go_wp2
     have n0_ : Aside0 (Kd.R k30 30 ((((w42.setCell ⟨gb752, 0, none⟩ (.int .i64 t748)).setCell ⟨gb752, 1, none⟩ (.bool t749)).setCell ⟨gb752, 2, none⟩ (.int .u64 t750)).setCell ⟨gb752, 3, none⟩ (.int .i64 t751)) w.heap.size (fun k_ => some k_ ≠ (.slice Ao40 y745.length co40 : Value).ownBlock ∧ k_ ≠ gb731 ∧ k_ ≠ gb732 ∧ k_ ≠ gb733 ∧ k_ ≠ gb744 ∧ k_ ≠ gb752) (.slice Ao28 y737.length co28) y737) := ⟨by (with_reducible repeat (first | apply Kd.R_alloc | apply Kd.R_drewN | apply Kd.R_drew)); exact Kd.R_mono (Kd.R_far (p := ⟨gb752, 3, none⟩) (Kd.R_far (p := ⟨gb752, 2, none⟩) (Kd.R_far (p := ⟨gb752, 1, none⟩) (Kd.R_far (p := ⟨gb752, 0, none⟩) (Kd.R_mono HO739.out (fun k_ hk => (⟨hk, hk.2⟩ : _ ∧ k_ ≠ gb752))) (fun _ hk => hk.2) (.int .i64 t748)) (fun _ hk => hk.2) (.bool t749)) (fun _ hk => hk.2) (.int .u64 t750)) (fun _ hk => hk.2) (.int .i64 t751)) (fun _ hk => ⟨hk.1.1.2, ⟨hk.1.1.1.1.1.1.2, ⟨hk.1.1.1.1.1.2, ⟨hk.1.1.1.1.2, ⟨hk.1.1.1.2, hk.1.2⟩⟩⟩⟩⟩)⟩
     have n1_ : Aside0 (Kd.R k30 30 ((((w42.setCell ⟨gb752, 0, none⟩ (.int .i64 t748)).setCell ⟨gb752, 1, none⟩ (.bool t749)).setCell ⟨gb752, 2, none⟩ (.int .u64 t750)).setCell ⟨gb752, 3, none⟩ (.int .i64 t751)) w.heap.size (fun k_ => some k_ ≠ (.slice Ao28 y737.length co28 : Value).ownBlock ∧ k_ ≠ gb731 ∧ k_ ≠ gb732 ∧ k_ ≠ gb733 ∧ k_ ≠ gb744 ∧ k_ ≠ gb752) (.slice Ao40 y745.length co40) y745) := ⟨by (with_reducible repeat (first | apply Kd.R_alloc | apply Kd.R_drewN | apply Kd.R_drew)); exact Kd.R_mono (Kd.R_far (p := ⟨gb752, 3, none⟩) (Kd.R_far (p := ⟨gb752, 2, none⟩) (Kd.R_far (p := ⟨gb752, 1, none⟩) (Kd.R_far (p := ⟨gb752, 0, none⟩) (Kd.R_mono HO747.out (fun k_ hk => (⟨hk, hk.2⟩ : _ ∧ k_ ≠ gb752))) (fun _ hk => hk.2) (.int .i64 t748)) (fun _ hk => hk.2) (.bool t749)) (fun _ hk => hk.2) (.int .u64 t750)) (fun _ hk => hk.2) (.int .i64 t751)) (fun _ hk => ⟨hk.1.1.1.1.1.1.2, ⟨hk.1.1.1.1.1.2, ⟨hk.1.1.1.1.2, ⟨hk.1.1.1.2, ⟨hk.1.1.2, hk.1.2⟩⟩⟩⟩⟩)⟩
     have n2_ : Aside0 (((((w42.setCell ⟨gb752, 0, none⟩ (.int .i64 t748)).setCell ⟨gb752, 1, none⟩ (.bool t749)).setCell ⟨gb752, 2, none⟩ (.int .u64 t750)).setCell ⟨gb752, 3, none⟩ (.int .i64 t751)).heap[gb731]? = some (.cells #[.int .i64 a0_0, .bool a0_1, .int .u64 a0_2, .int .i64 a0_3] 30 (0, 0))) := ⟨by refine kb_ ?_; refine bf_ NB731_752 ?_; refine bf_ NB731_752 ?_; refine bf_ NB731_752 ?_; refine bf_ NB731_752 ?_; exact BK731.out⟩
     have n3_ : Aside0 (((((w42.setCell ⟨gb752, 0, none⟩ (.int .i64 t748)).setCell ⟨gb752, 1, none⟩ (.bool t749)).setCell ⟨gb752, 2, none⟩ (.int .u64 t750)).setCell ⟨gb752, 3, none⟩ (.int .i64 t751)).heap[gb732]? = some (.cells #[.int .i64 a1_0, .bool a1_1, .int .u64 a1_2, .int .i64 a1_3] 30 (0, 0))) := ⟨by refine kb_ ?_; refine bf_ NB732_752 ?_; refine bf_ NB732_752 ?_; refine bf_ NB732_752 ?_; refine bf_ NB732_752 ?_; exact BK732.out⟩
     have n4_ : Aside0 (((((w42.setCell ⟨gb752, 0, none⟩ (.int .i64 t748)).setCell ⟨gb752, 1, none⟩ (.bool t749)).setCell ⟨gb752, 2, none⟩ (.int .u64 t750)).setCell ⟨gb752, 3, none⟩ (.int .i64 t751)).heap[gb733]? = some (.cells #[.int .i64 a2_0, .bool a2_1, .int .u64 a2_2, .int .i64 a2_3] 30 (0, 0))) := ⟨by refine kb_ ?_; refine bf_ NB733_752 ?_; refine bf_ NB733_752 ?_; refine bf_ NB733_752 ?_; refine bf_ NB733_752 ?_; exact BK733.out⟩
     have n5_ : Aside0 (((((w42.setCell ⟨gb752, 0, none⟩ (.int .i64 t748)).setCell ⟨gb752, 1, none⟩ (.bool t749)).setCell ⟨gb752, 2, none⟩ (.int .u64 t750)).setCell ⟨gb752, 3, none⟩ (.int .i64 t751)).heap[gb744]? = some (.cells #[.int .i64 t740, .bool t741, .int .u64 t742, .int .i64 t743] 30 (0, 0))) := ⟨by refine kb_ ?_; refine bf_ NB744_752 ?_; refine bf_ NB744_752 ?_; refine bf_ NB744_752 ?_; refine bf_ NB744_752 ?_; exact BK744.out⟩
     have n6_ : Aside0 (((((w42.setCell ⟨gb752, 0, none⟩ (.int .i64 t748)).setCell ⟨gb752, 1, none⟩ (.bool t749)).setCell ⟨gb752, 2, none⟩ (.int .u64 t750)).setCell ⟨gb752, 3, none⟩ (.int .i64 t751)).heap[gb752]? = some (.cells #[.int .i64 t748, .bool t749, .int .u64 t750, .int .i64 t751] 30 (0, 0))) := ⟨by refine kb_ ?_; refine bp_ #[.int .i64 t748, .bool t749, .int .u64 t750, .int .i64 0] 3 ?_; refine bp_ #[.int .i64 t748, .bool t749, .int .u64 0, .int .i64 0] 2 ?_; refine bp_ #[.int .i64 t748, .bool false, .int .u64 0, .int .i64 0] 1 ?_; refine bp_ #[.int .i64 0, .bool false, .int .u64 0, .int .i64 0] 0 ?_; exact BK752.out⟩
     have n7_ : Aside0 (Below w.heap.size w ((((w42.setCell ⟨gb752, 0, none⟩ (.int .i64 t748)).setCell ⟨gb752, 1, none⟩ (.bool t749)).setCell ⟨gb752, 2, none⟩ (.int .u64 t750)).setCell ⟨gb752, 3, none⟩ (.int .i64 t751))) := ⟨bw_ HB.out⟩
     (try clear HO739)
     (try clear HO747)
     (try clear BK731)
     (try clear BK732)
     (try clear BK733)
     (try clear BK744)
     (try clear BK752)
     (try clear HB)
     generalize ((((w42.setCell ⟨gb752, 0, none⟩ (.int .i64 t748)).setCell ⟨gb752, 1, none⟩ (.bool t749)).setCell ⟨gb752, 2, none⟩ (.int .u64 t750)).setCell ⟨gb752, 3, none⟩ (.int .i64 t751)) = w52 at n0_ n1_ n2_ n3_ n4_ n5_ n6_ n7_ ⊢
     have HO739 := n0_
     have HO747 := n1_
     have BK731 := n2_
     have BK732 := n3_
     have BK733 := n4_
     have BK744 := n5_
     have BK752 := n6_
     have HB := n7_
     clear n0_ n1_ n2_ n3_ n4_ n5_ n6_ n7_
     replace HO739 := Aside0.mk (Kd.R_drew HO739.out)
     replace HO747 := Aside0.mk (Kd.R_drew HO747.out)
     replace BK731 := Aside0.mk (blk_drew BK731.out)
     replace BK732 := Aside0.mk (blk_drew BK732.out)
     replace BK733 := Aside0.mk (blk_drew BK733.out)
     replace BK744 := Aside0.mk (blk_drew BK744.out)
     replace BK752 := Aside0.mk (blk_drew BK752.out)
     replace HB := Aside0.mk (below_drew1 HB.out)
     refine start_ (n := 30) (S := fun w' => w'.cell? ⟨gb731, 0, none⟩ = some (.int .i64 a0_0) ∧ w'.cell? ⟨gb731, 1, none⟩ = some (.bool a0_1) ∧ w'.cell? ⟨gb731, 2, none⟩ = some (.int .u64 a0_2) ∧ w'.cell? ⟨gb731, 3, none⟩ = some (.int .i64 a0_3) ∧ w'.cell? ⟨gb733, 0, none⟩ = some (.int .i64 a2_0) ∧ w'.cell? ⟨gb733, 1, none⟩ = some (.bool a2_1) ∧ w'.cell? ⟨gb733, 2, none⟩ = some (.int .u64 a2_2) ∧ w'.cell? ⟨gb733, 3, none⟩ = some (.int .i64 a2_3)) (ds := []) #[false, false, false, false, false, false, false, false, false, false, false, false, false, false, false, false, false, false, false, false, false, false, false, false, false, false, false, false, false, false] (by kernel_rfl) rfl rfl ⟨(blk_cell BK731.out 0).trans rfl, (blk_cell BK731.out 1).trans rfl, (blk_cell BK731.out 2).trans rfl, (blk_cell BK731.out 3).trans rfl, (blk_cell BK733.out 0).trans rfl, (blk_cell BK733.out 1).trans rfl, (blk_cell BK733.out 2).trans rfl, (blk_cell BK733.out 3).trans rfl⟩ (fun hHeld => ?_); refine with_tabW peloruslaw05_NumOrder.tab6 peloruslaw05_NumOrder.bits6 (fun HT_ HW_ => ?_)
     generalize w52.drew = w53 at HO739 HO747 BK731 BK732 BK733 BK744 BK752 HB hHeld ⊢
     refine pure_ (i := 0) (N := some 30) (v := ?_) (a' := ?_) #[true, false, false, false, false, false, false, false, false, false, false, false, false, false, false, false, false, false, false, false, false, false, false, false, false, false, false, false, false, false] rfl rfl (any_of HT_.out (by kernel_rfl)) (fun _ _ _ h => h) (Or.inl ⟨by rfl, ?_⟩) ?_ ?_
     rotate_left
     ·intro w'
      go_simp
      with_reducible rfl
     rotate_left
     ·exact pt_
     refine pure_ (i := 1) (N := some 31) (v := ?_) (a' := ?_) #[true, true, false, false, false, false, false, false, false, false, false, false, false, false, false, false, false, false, false, false, false, false, false, false, false, false, false, false, false, false] rfl rfl (any_of HT_.out (by kernel_rfl)) (fun _ _ _ h => h) (Or.inl ⟨by rfl, ?_⟩) ?_ ?_
     rotate_left
     ·intro w'
      go_simp
      with_reducible rfl
     rotate_left
     ·exact pt_
     refine pure_ (i := 2) (N := some 32) (v := ?_) (a' := ?_) #[true, true, true, false, false, false, false, false, false, false, false, false, false, false, false, false, false, false, false, false, false, false, false, false, false, false, false, false, false, false] rfl rfl (any_of HT_.out (by kernel_rfl)) (fun _ _ _ h => h) (Or.inl ⟨by rfl, ?_⟩) ?_ ?_
     rotate_left
     ·intro w'
      go_simp
      with_reducible rfl
     rotate_left
     ·exact pt_
     refine pure_ (i := 3) (N := some 33) (v := ?_) (a' := ?_) #[true, true, true, true, false, false, false, false, false, false, false, false, false, false, false, false, false, false, false, false, false, false, false, false, false, false, false, false, false, false] rfl rfl (any_of HT_.out (by kernel_rfl)) (fun _ _ _ h => h) (Or.inl ⟨by rfl, ?_⟩) ?_ ?_
     rotate_left
     ·intro w'
      go_simp
      with_reducible rfl
     rotate_left
     ·exact pt_
     refine pure_ (i := 4) (N := some 34) (v := ?_) (a' := ?_) #[true, true, true, true, true, false, false, false, false, false, false, false, false, false, false, false, false, false, false, false, false, false, false, false, false, false, false, false, false, false] rfl rfl (any_of HT_.out (by kernel_rfl)) (fun _ _ _ h => h) (Or.inl ⟨by rfl, ?_⟩) ?_ ?_
     rotate_left
     ·intro w'
      go_simp
      with_reducible rfl
     rotate_left
     ·exact pt_
     refine pure_ (i := 5) (N := some 35) (v := ?_) (a' := ?_) #[true, true, true, true, true, true, false, false, false, false, false, false, false, false, false, false, false, false, false, false, false, false, false, false, false, false, false, false, false, false] rfl rfl (any_of HT_.out (by kernel_rfl)) (fun _ _ _ h => h) (Or.inl ⟨by rfl, ?_⟩) ?_ ?_
     rotate_left
     ·intro w'
      go_simp
      with_reducible rfl
     rotate_left
     ·exact pt_
     refine pure_ (i := 6) (N := some 36) (v := ?_) (a' := ?_) #[true, true, true, true, true, true, true, false, false, false, false, false, false, false, false, false, false, false, false, false, false, false, false, false, false, false, false, false, false, false] rfl rfl (any_of HT_.out (by kernel_rfl)) (fun _ _ _ h => h) (Or.inl ⟨by rfl, ?_⟩) ?_ ?_
     rotate_left
     ·intro w'
      go_simp
      with_reducible rfl
     rotate_left
     ·exact pt_
     refine take_ (i := 7) (N := some 37) (v := ?_) (a' := ?_) #[true, true, true, true, true, true, true, true, false, false, false, false, false, false, false, false, false, false, false, false, false, false, false, false, false, false, false, false, false, false] rfl rfl (take_ofW HT_.out HW_.out (by kernel_rfl)) (fun _ _ _ h => h) (Or.inl ⟨by rfl, ?_⟩) hHeld ?_ ?_
     rotate_left
     ·rintro w' ⟨s0, s1, s2, s3, s4, s5, s6, s7⟩
      go_simp
      with_reducible rfl
     rotate_left
     ·exact pt_
     refine take_ (i := 8) (N := some 38) (v := ?_) (a' := ?_) #[true, true, true, true, true, true, true, true, true, false, false, false, false, false, false, false, false, false, false, false, false, false, false, false, false, false, false, false, false, false] rfl rfl (take_ofW HT_.out HW_.out (by kernel_rfl)) (fun _ _ _ h => h) (Or.inl ⟨by rfl, ?_⟩) hHeld ?_ ?_
     rotate_left
     ·rintro w' ⟨s0, s1, s2, s3, s4, s5, s6, s7⟩
      go_simp
      with_reducible rfl
     rotate_left
     ·exact pt_
     refine one_ (i := 9) (N := some 39) #[true, true, true, true, true, true, true, true, true, true, false, false, false, false, false, false, false, false, false, false, false, false, false, false, false, false, false, false, false, false] rfl rfl (one_of HT_.out (by kernel_rfl)) (by decide) (fun K hK => ?_)
     refine gs_ Tryd.func17 #[.agg #[.int .i64 a0_0, .bool a0_1, .int .u64 a0_2, .int .i64 a0_3], .agg #[.int .i64 a2_0, .bool a2_1, .int .u64 a2_2, .int .i64 a2_3]] ?_
     with_reducible refine (num_Cmp.calls a0_0 a0_1 a0_2 a0_3 a2_0 a2_1 a2_2 a2_3 t753 _ A50.out).mono ?_
     rintro e w54 ⟨rfl, hb⟩
     refine ⟨_, rfl, ?_⟩
     replace HO739 := Aside0.mk (Kd.R_below (kr_ HO739.out) hb)
     replace HO747 := Aside0.mk (Kd.R_below (kr_ HO747.out) hb)
     replace BK731 := kq_ BK731 hb
     replace BK732 := kq_ BK732 hb
     replace BK733 := kq_ BK733 hb
     replace BK744 := kq_ BK744 hb
     replace BK752 := kq_ BK752 hb
     replace HB := bq_ HB hb
     (try clear hb)
     (try clear hb2)
     (try clear hk)
     (try clear hi)
     refine hK.out _ _ ⟨(blk_cell BK731.out 0).trans rfl, (blk_cell BK731.out 1).trans rfl, (blk_cell BK731.out 2).trans rfl, (blk_cell BK731.out 3).trans rfl, (blk_cell BK733.out 0).trans rfl, (blk_cell BK733.out 1).trans rfl, (blk_cell BK733.out 2).trans rfl, (blk_cell BK733.out 3).trans rfl⟩ (fun hHeld => ?_)
     clear hK K
     refine norm_ (a' := ?_) ?_ ?_
     rotate_left
     ·show Act.put _ (some 39) _ = _
      exact pt_
     refine pure_ (i := 10) (N := some 40) (v := ?_) (a' := ?_) #[true, true, true, true, true, true, true, true, true, true, true, false, false, false, false, false, false, false, false, false, false, false, false, false, false, false, false, false, false, false] rfl rfl (any_of HT_.out (by kernel_rfl)) (fun _ _ _ h => h) (Or.inl ⟨by rfl, ?_⟩) ?_ ?_
     rotate_left
     ·intro w'
      go_simp
      with_reducible rfl
     rotate_left
     ·exact pt_
     refine pure_ (i := 11) (N := some 41) (v := ?_) (a' := ?_) #[true, true, true, true, true, true, true, true, true, true, true, true, false, false, false, false, false, false, false, false, false, false, false, false, false, false, false, false, false, false] rfl rfl (any_of HT_.out (by kernel_rfl)) (fun _ _ _ h => h) (Or.inl ⟨by rfl, ?_⟩) ?_ ?_
     rotate_left
     ·intro w'
      go_simp
      with_reducible rfl
     rotate_left
     ·exact pt_
     refine pure_ (i := 12) (N := some 42) (v := ?_) (a' := ?_) #[true, true, true, true, true, true, true, true, true, true, true, true, true, false, false, false, false, false, false, false, false, false, false, false, false, false, false, false, false, false] rfl rfl (any_of HT_.out (by kernel_rfl)) (fun _ _ _ h => h) (Or.inl ⟨by rfl, ?_⟩) ?_ ?_
     rotate_left
     ·intro w'
      go_simp
      with_reducible rfl
     rotate_left
     ·exact pt_
     refine pure_ (i := 13) (N := some 43) (v := undef) (a' := ?_) #[true, true, true, true, true, true, true, true, true, true, true, true, true, true, false, false, false, false, false, false, false, false, false, false, false, false, false, false, false, false] rfl rfl (any_of HT_.out (by kernel_rfl)) (fun _ _ _ h => h) (Or.inr ⟨by rfl, rfl⟩) ?_ ?_
     rotate_left
     ·exact pt_
     refine pure_ (i := 14) (N := some 44) (v := undef) (a' := ?_) #[true, true, true, true, true, true, true, true, true, true, true, true, true, true, true, false, false, false, false, false, false, false, false, false, false, false, false, false, false, false] rfl rfl (any_of HT_.out (by kernel_rfl)) (fun _ _ _ h => h) (Or.inr ⟨by rfl, rfl⟩) ?_ ?_
     rotate_left
     ·exact pt_
     refine pure_ (i := 15) (N := some 45) (v := undef) (a' := ?_) #[true, true, true, true, true, true, true, true, true, true, true, true, true, true, true, true, false, false, false, false, false, false, false, false, false, false, false, false, false, false] rfl rfl (any_of HT_.out (by kernel_rfl)) (fun _ _ _ h => h) (Or.inr ⟨by rfl, rfl⟩) ?_ ?_
     rotate_left
     ·exact pt_
     refine pure_ (i := 16) (N := some 46) (v := undef) (a' := ?_) #[true, true, true, true, true, true, true, true, true, true, true, true, true, true, true, true, true, false, false, false, false, false, false, false, false, false, false, false, false, false] rfl rfl (any_of HT_.out (by kernel_rfl)) (fun _ _ _ h => h) (Or.inr ⟨by rfl, rfl⟩) ?_ ?_
     rotate_left
     ·exact pt_
     refine pure_ (i := 17) (N := some 47) (v := undef) (a' := ?_) #[true, true, true, true, true, true, true, true, true, true, true, true, true, true, true, true, true, true, false, false, false, false, false, false, false, false, false, false, false, false] rfl rfl (any_of HT_.out (by kernel_rfl)) (fun _ _ _ h => h) (Or.inr ⟨by rfl, rfl⟩) ?_ ?_
     rotate_left
     ·exact pt_
     refine pure_ (i := 18) (N := some 48) (v := undef) (a' := ?_) #[true, true, true, true, true, true, true, true, true, true, true, true, true, true, true, true, true, true, true, false, false, false, false, false, false, false, false, false, false, false] rfl rfl (any_of HT_.out (by kernel_rfl)) (fun _ _ _ h => h) (Or.inr ⟨by rfl, rfl⟩) ?_ ?_
     rotate_left
     ·exact pt_
     refine pure_ (i := 19) (N := some 49) (v := ?_) (a' := ?_) #[true, true, true, true, true, true, true, true, true, true, true, true, true, true, true, true, true, true, true, true, false, false, false, false, false, false, false, false, false, false] rfl rfl (any_of HT_.out (by kernel_rfl)) (fun _ _ _ h => h) (Or.inl ⟨by rfl, ?_⟩) ?_ ?_
     rotate_left
     ·intro w'
      go_simp
      with_reducible rfl
     rotate_left
     ·exact pt_
     refine pure_ (i := 20) (N := some 50) (v := ?_) (a' := ?_) #[true, true, true, true, true, true, true, true, true, true, true, true, true, true, true, true, true, true, true, true, true, false, false, false, false, false, false, false, false, false] rfl rfl (any_of HT_.out (by kernel_rfl)) (fun _ _ _ h => h) (Or.inl ⟨by rfl, ?_⟩) ?_ ?_
     rotate_left
     ·intro w'
      go_simp
      with_reducible rfl
     rotate_left
     ·exact pt_
     refine pure_ (i := 21) (N := some 51) (v := undef) (a' := ?_) #[true, true, true, true, true, true, true, true, true, true, true, true, true, true, true, true, true, true, true, true, true, true, false, false, false, false, false, false, false, false] rfl rfl (any_of HT_.out (by kernel_rfl)) (fun _ _ _ h => h) (Or.inr ⟨by rfl, rfl⟩) ?_ ?_
     rotate_left
     ·exact pt_
     refine pure_ (i := 22) (N := some 52) (v := undef) (a' := ?_) #[true, true, true, true, true, true, true, true, true, true, true, true, true, true, true, true, true, true, true, true, true, true, true, false, false, false, false, false, false, false] rfl rfl (any_of HT_.out (by kernel_rfl)) (fun _ _ _ h => h) (Or.inr ⟨by rfl, rfl⟩) ?_ ?_
     rotate_left
     ·exact pt_
     refine pure_ (i := 23) (N := some 53) (v := undef) (a' := ?_) #[true, true, true, true, true, true, true, true, true, true, true, true, true, true, true, true, true, true, true, true, true, true, true, true, false, false, false, false, false, false] rfl rfl (any_of HT_.out (by kernel_rfl)) (fun _ _ _ h => h) (Or.inr ⟨by rfl, rfl⟩) ?_ ?_
     rotate_left
     ·exact pt_
     refine pure_ (i := 24) (N := some 54) (v := undef) (a' := ?_) #[true, true, true, true, true, true, true, true, true, true, true, true, true, true, true, true, true, true, true, true, true, true, true, true, true, false, false, false, false, false] rfl rfl (any_of HT_.out (by kernel_rfl)) (fun _ _ _ h => h) (Or.inr ⟨by rfl, rfl⟩) ?_ ?_
     rotate_left
     ·exact pt_
     refine pure_ (i := 25) (N := some 55) (v := undef) (a' := ?_) #[true, true, true, true, true, true, true, true, true, true, true, true, true, true, true, true, true, true, true, true, true, true, true, true, true, true, false, false, false, false] rfl rfl (any_of HT_.out (by kernel_rfl)) (fun _ _ _ h => h) (Or.inr ⟨by rfl, rfl⟩) ?_ ?_
     rotate_left
     ·exact pt_
     refine pure_ (i := 26) (N := some 56) (v := undef) (a' := ?_) #[true, true, true, true, true, true, true, true, true, true, true, true, true, true, true, true, true, true, true, true, true, true, true, true, true, true, true, false, false, false] rfl rfl (any_of HT_.out (by kernel_rfl)) (fun _ _ _ h => h) (Or.inr ⟨by rfl, rfl⟩) ?_ ?_
     rotate_left
     ·exact pt_
     refine pure_ (i := 27) (N := some 57) (v := undef) (a' := ?_) #[true, true, true, true, true, true, true, true, true, true, true, true, true, true, true, true, true, true, true, true, true, true, true, true, true, true, true, true, false, false] rfl rfl (any_of HT_.out (by kernel_rfl)) (fun _ _ _ h => h) (Or.inr ⟨by rfl, rfl⟩) ?_ ?_
     rotate_left
     ·exact pt_
     refine pure_ (i := 28) (N := some 58) (v := undef) (a' := ?_) #[true, true, true, true, true, true, true, true, true, true, true, true, true, true, true, true, true, true, true, true, true, true, true, true, true, true, true, true, true, false] rfl rfl (any_of HT_.out (by kernel_rfl)) (fun _ _ _ h => h) (Or.inr ⟨by rfl, rfl⟩) ?_ ?_
     rotate_left
     ·exact pt_
     refine pure_ (i := 29) (N := some 59) (v := ?_) (a' := ?_) #[true, true, true, true, true, true, true, true, true, true, true, true, true, true, true, true, true, true, true, true, true, true, true, true, true, true, true, true, true, true] rfl rfl (any_of HT_.out (by kernel_rfl)) (fun _ _ _ h => h) (Or.inl ⟨by rfl, ?_⟩) ?_ ?_
     rotate_left
     ·intro w'
      go_simp
      with_reducible rfl
     rotate_left
     ·exact pt_
     refine done_ (done_of HT_.out (by kernel_rfl)) ?_
     try go_wp2
     go_meet
     case rel => exact ⟨_, (true), (by first | rfl | (simp; done) | (simp [*]; done)), H', ⟨by first | omega | exact Nat.le_refl _⟩, ⟨kb_ BK731.out⟩, ⟨kb_ BK732.out⟩, ⟨kb_ BK733.out⟩, ⟨kb_ BK744.out⟩, ⟨kb_ BK752.out⟩, ⟨bw_ HB.out⟩⟩
    ·rw [if_neg c51] at H
     have c51b0 : decide (0 < t753) = false := decide_eq_false c51
     clear c51
     replace H := Option.bind_eq_some_iff.mp H
     obtain ⟨t754, A550, H⟩ := H
     (try dsimp only at H)
     have A55 := Aside0.mk A550
     clear A550
     by_cases c56 : t754 = (wrap64 (-t735))
     ·rw [if_pos c56] at H
      have c56b0 : (t754 == (wrap64 (-t735))) = true := beq_iff_eq.mpr c56
      have c56b1 : (t754 != (wrap64 (-t735))) = false := bne_eq_false_iff_eq.mpr c56
      clear c56
      replace H := Option.bind_eq_some_iff.mp H
      obtain ⟨⟨t755, t756, t757, t758⟩, A570, H⟩ := H
      (try dsimp only at H)
      have A57 := Aside0.mk A570
      clear A570
      replace H := Option.bind_eq_some_iff.mp H
      obtain ⟨⟨t759, t760, t761, t762⟩, A580, H⟩ := H
      (try dsimp only at H)
      have A58 := Aside0.mk A580
      clear A580
      replace H := Option.bind_eq_some_iff.mp H
      obtain ⟨t763, A590, H⟩ := H
      (try dsimp only at H)
      have A59 := Aside0.mk A590
      clear A590
      have H' := Aside0.mk H
      clear H
      try go_wp2
      have n0_ : Aside0 (Kd.R k30 30 ((((w42.setCell ⟨gb752, 0, none⟩ (.int .i64 t748)).setCell ⟨gb752, 1, none⟩ (.bool t749)).setCell ⟨gb752, 2, none⟩ (.int .u64 t750)).setCell ⟨gb752, 3, none⟩ (.int .i64 t751)) w.heap.size (fun k_ => some k_ ≠ (.slice Ao40 y745.length co40 : Value).ownBlock ∧ k_ ≠ gb731 ∧ k_ ≠ gb732 ∧ k_ ≠ gb733 ∧ k_ ≠ gb744 ∧ k_ ≠ gb752) (.slice Ao28 y737.length co28) y737) := ⟨by (with_reducible repeat (first | apply Kd.R_alloc | apply Kd.R_drewN | apply Kd.R_drew)); exact Kd.R_mono (Kd.R_far (p := ⟨gb752, 3, none⟩) (Kd.R_far (p := ⟨gb752, 2, none⟩) (Kd.R_far (p := ⟨gb752, 1, none⟩) (Kd.R_far (p := ⟨gb752, 0, none⟩) (Kd.R_mono HO739.out (fun k_ hk => (⟨hk, hk.2⟩ : _ ∧ k_ ≠ gb752))) (fun _ hk => hk.2) (.int .i64 t748)) (fun _ hk => hk.2) (.bool t749)) (fun _ hk => hk.2) (.int .u64 t750)) (fun _ hk => hk.2) (.int .i64 t751)) (fun _ hk => ⟨hk.1.1.2, ⟨hk.1.1.1.1.1.1.2, ⟨hk.1.1.1.1.1.2, ⟨hk.1.1.1.1.2, ⟨hk.1.1.1.2, hk.1.2⟩⟩⟩⟩⟩)⟩
      have n1_ : Aside0 (Kd.R k30 30 ((((w42.setCell ⟨gb752, 0, none⟩ (.int .i64 t748)).setCell ⟨gb752, 1, none⟩ (.bool t749)).setCell ⟨gb752, 2, none⟩ (.int .u64 t750)).setCell ⟨gb752, 3, none⟩ (.int .i64 t751)) w.heap.size (fun k_ => some k_ ≠ (.slice Ao28 y737.length co28 : Value).ownBlock ∧ k_ ≠ gb731 ∧ k_ ≠ gb732 ∧ k_ ≠ gb733 ∧ k_ ≠ gb744 ∧ k_ ≠ gb752) (.slice Ao40 y745.length co40) y745) := ⟨by (with_reducible repeat (first | apply Kd.R_alloc | apply Kd.R_drewN | apply Kd.R_drew)); exact Kd.R_mono (Kd.R_far (p := ⟨gb752, 3, none⟩) (Kd.R_far (p := ⟨gb752, 2, none⟩) (Kd.R_far (p := ⟨gb752, 1, none⟩) (Kd.R_far (p := ⟨gb752, 0, none⟩) (Kd.R_mono HO747.out (fun k_ hk => (⟨hk, hk.2⟩ : _ ∧ k_ ≠ gb752))) (fun _ hk => hk.2) (.int .i64 t748)) (fun _ hk => hk.2) (.bool t749)) (fun _ hk => hk.2) (.int .u64 t750)) (fun _ hk => hk.2) (.int .i64 t751)) (fun _ hk => ⟨hk.1.1.1.1.1.1.2, ⟨hk.1.1.1.1.1.2, ⟨hk.1.1.1.1.2, ⟨hk.1.1.1.2, ⟨hk.1.1.2, hk.1.2⟩⟩⟩⟩⟩)⟩
      have n2_ : Aside0 (((((w42.setCell ⟨gb752, 0, none⟩ (.int .i64 t748)).setCell ⟨gb752, 1, none⟩ (.bool t749)).setCell ⟨gb752, 2, none⟩ (.int .u64 t750)).setCell ⟨gb752, 3, none⟩ (.int .i64 t751)).heap[gb731]? = some (.cells #[.int .i64 a0_0, .bool a0_1, .int .u64 a0_2, .int .i64 a0_3] 30 (0, 0))) := ⟨by refine kb_ ?_; refine bf_ NB731_752 ?_; refine bf_ NB731_752 ?_; refine bf_ NB731_752 ?_; refine bf_ NB731_752 ?_; exact BK731.out⟩
      have n3_ : Aside0 (((((w42.setCell ⟨gb752, 0, none⟩ (.int .i64 t748)).setCell ⟨gb752, 1, none⟩ (.bool t749)).setCell ⟨gb752, 2, none⟩ (.int .u64 t750)).setCell ⟨gb752, 3, none⟩ (.int .i64 t751)).heap[gb732]? = some (.cells #[.int .i64 a1_0, .bool a1_1, .int .u64 a1_2, .int .i64 a1_3] 30 (0, 0))) := ⟨by refine kb_ ?_; refine bf_ NB732_752 ?_; refine bf_ NB732_752 ?_; refine bf_ NB732_752 ?_; refine bf_ NB732_752 ?_; exact BK732.out⟩
      have n4_ : Aside0 (((((w42.setCell ⟨gb752, 0, none⟩ (.int .i64 t748)).setCell ⟨gb752, 1, none⟩ (.bool t749)).setCell ⟨gb752, 2, none⟩ (.int .u64 t750)).setCell ⟨gb752, 3, none⟩ (.int .i64 t751)).heap[gb733]? = some (.cells #[.int .i64 a2_0, .bool a2_1, .int .u64 a2_2, .int .i64 a2_3] 30 (0, 0))) := ⟨by refine kb_ ?_; refine bf_ NB733_752 ?_; refine bf_ NB733_752 ?_; refine bf_ NB733_752 ?_; refine bf_ NB733_752 ?_; exact BK733.out⟩
      have n5_ : Aside0 (((((w42.setCell ⟨gb752, 0, none⟩ (.int .i64 t748)).setCell ⟨gb752, 1, none⟩ (.bool t749)).setCell ⟨gb752, 2, none⟩ (.int .u64 t750)).setCell ⟨gb752, 3, none⟩ (.int .i64 t751)).heap[gb744]? = some (.cells #[.int .i64 t740, .bool t741, .int .u64 t742, .int .i64 t743] 30 (0, 0))) := ⟨by refine kb_ ?_; refine bf_ NB744_752 ?_; refine bf_ NB744_752 ?_; refine bf_ NB744_752 ?_; refine bf_ NB744_752 ?_; exact BK744.out⟩
      have n6_ : Aside0 (((((w42.setCell ⟨gb752, 0, none⟩ (.int .i64 t748)).setCell ⟨gb752, 1, none⟩ (.bool t749)).setCell ⟨gb752, 2, none⟩ (.int .u64 t750)).setCell ⟨gb752, 3, none⟩ (.int .i64 t751)).heap[gb752]? = some (.cells #[.int .i64 t748, .bool t749, .int .u64 t750, .int .i64 t751] 30 (0, 0))) := ⟨by refine kb_ ?_; refine bp_ #[.int .i64 t748, .bool t749, .int .u64 t750, .int .i64 0] 3 ?_; refine bp_ #[.int .i64 t748, .bool t749, .int .u64 0, .int .i64 0] 2 ?_; refine bp_ #[.int .i64 t748, .bool false, .int .u64 0, .int .i64 0] 1 ?_; refine bp_ #[.int .i64 0, .bool false, .int .u64 0, .int .i64 0] 0 ?_; exact BK752.out⟩
      have n7_ : Aside0 (Below w.heap.size w ((((w42.setCell ⟨gb752, 0, none⟩ (.int .i64 t748)).setCell ⟨gb752, 1, none⟩ (.bool t749)).setCell ⟨gb752, 2, none⟩ (.int .u64 t750)).setCell ⟨gb752, 3, none⟩ (.int .i64 t751))) := ⟨bw_ HB.out⟩
      (try clear HO739)
      (try clear HO747)
      (try clear BK731)
      (try clear BK732)
      (try clear BK733)
      (try clear BK744)
      (try clear BK752)
      (try clear HB)
      generalize ((((w42.setCell ⟨gb752, 0, none⟩ (.int .i64 t748)).setCell ⟨gb752, 1, none⟩ (.bool t749)).setCell ⟨gb752, 2, none⟩ (.int .u64 t750)).setCell ⟨gb752, 3, none⟩ (.int .i64 t751)) = w60 at n0_ n1_ n2_ n3_ n4_ n5_ n6_ n7_ ⊢
      have HO739 := n0_
      have HO747 := n1_
      have BK731 := n2_
      have BK732 := n3_
      have BK733 := n4_
      have BK744 := n5_
      have BK752 := n6_
      have HB := n7_
      clear n0_ n1_ n2_ n3_ n4_ n5_ n6_ n7_
      replace HO739 := Aside0.mk (Kd.R_drew HO739.out)
      replace HO747 := Aside0.mk (Kd.R_drew HO747.out)
      replace BK731 := Aside0.mk (blk_drew BK731.out)
      replace BK732 := Aside0.mk (blk_drew BK732.out)
      replace BK733 := Aside0.mk (blk_drew BK733.out)
      replace BK744 := Aside0.mk (blk_drew BK744.out)
      replace BK752 := Aside0.mk (blk_drew BK752.out)
      replace HB := Aside0.mk (below_drew1 HB.out)
      refine start_ (n := 30) (S := fun w' => w'.cell? ⟨gb731, 0, none⟩ = some (.int .i64 a0_0) ∧ w'.cell? ⟨gb731, 1, none⟩ = some (.bool a0_1) ∧ w'.cell? ⟨gb731, 2, none⟩ = some (.int .u64 a0_2) ∧ w'.cell? ⟨gb731, 3, none⟩ = some (.int .i64 a0_3) ∧ w'.cell? ⟨gb733, 0, none⟩ = some (.int .i64 a2_0) ∧ w'.cell? ⟨gb733, 1, none⟩ = some (.bool a2_1) ∧ w'.cell? ⟨gb733, 2, none⟩ = some (.int .u64 a2_2) ∧ w'.cell? ⟨gb733, 3, none⟩ = some (.int .i64 a2_3) ∧ w'.cell? ⟨gb732, 0, none⟩ = some (.int .i64 a1_0) ∧ w'.cell? ⟨gb732, 1, none⟩ = some (.bool a1_1) ∧ w'.cell? ⟨gb732, 2, none⟩ = some (.int .u64 a1_2) ∧ w'.cell? ⟨gb732, 3, none⟩ = some (.int .i64 a1_3)) (ds := []) #[false, false, false, false, false, false, false, false, false, false, false, false, false, false, false, false, false, false, false, false, false, false, false, false, false, false, false, false, false, false] (by kernel_rfl) rfl rfl ⟨(blk_cell BK731.out 0).trans rfl, (blk_cell BK731.out 1).trans rfl, (blk_cell BK731.out 2).trans rfl, (blk_cell BK731.out 3).trans rfl, (blk_cell BK733.out 0).trans rfl, (blk_cell BK733.out 1).trans rfl, (blk_cell BK733.out 2).trans rfl, (blk_cell BK733.out 3).trans rfl, (blk_cell BK732.out 0).trans rfl, (blk_cell BK732.out 1).trans rfl, (blk_cell BK732.out 2).trans rfl, (blk_cell BK732.out 3).trans rfl⟩ (fun hHeld => ?_); refine with_tabW peloruslaw05_NumOrder.tab6 peloruslaw05_NumOrder.bits6 (fun HT_ HW_ => ?_)
      generalize w60.drew = w61 at HO739 HO747 BK731 BK732 BK733 BK744 BK752 HB hHeld ⊢
      refine pure_ (i := 0) (N := some 30) (v := ?_) (a' := ?_) #[true, false, false, false, false, false, false, false, false, false, false, false, false, false, false, false, false, false, false, false, false, false, false, false, false, false, false, false, false, false] rfl rfl (any_of HT_.out (by kernel_rfl)) (fun _ _ _ h => h) (Or.inl ⟨by rfl, ?_⟩) ?_ ?_
      rotate_left
      ·intro w'
       go_simp
       with_reducible rfl
      rotate_left
      ·exact pt_
      refine pure_ (i := 1) (N := some 31) (v := ?_) (a' := ?_) #[true, true, false, false, false, false, false, false, false, false, false, false, false, false, false, false, false, false, false, false, false, false, false, false, false, false, false, false, false, false] rfl rfl (any_of HT_.out (by kernel_rfl)) (fun _ _ _ h => h) (Or.inl ⟨by rfl, ?_⟩) ?_ ?_
      rotate_left
      ·intro w'
       go_simp
       with_reducible rfl
      rotate_left
      ·exact pt_
      refine pure_ (i := 2) (N := some 32) (v := ?_) (a' := ?_) #[true, true, true, false, false, false, false, false, false, false, false, false, false, false, false, false, false, false, false, false, false, false, false, false, false, false, false, false, false, false] rfl rfl (any_of HT_.out (by kernel_rfl)) (fun _ _ _ h => h) (Or.inl ⟨by rfl, ?_⟩) ?_ ?_
      rotate_left
      ·intro w'
       go_simp
       with_reducible rfl
      rotate_left
      ·exact pt_
      refine pure_ (i := 3) (N := some 33) (v := ?_) (a' := ?_) #[true, true, true, true, false, false, false, false, false, false, false, false, false, false, false, false, false, false, false, false, false, false, false, false, false, false, false, false, false, false] rfl rfl (any_of HT_.out (by kernel_rfl)) (fun _ _ _ h => h) (Or.inl ⟨by rfl, ?_⟩) ?_ ?_
      rotate_left
      ·intro w'
       go_simp
       with_reducible rfl
      rotate_left
      ·exact pt_
      refine pure_ (i := 4) (N := some 34) (v := ?_) (a' := ?_) #[true, true, true, true, true, false, false, false, false, false, false, false, false, false, false, false, false, false, false, false, false, false, false, false, false, false, false, false, false, false] rfl rfl (any_of HT_.out (by kernel_rfl)) (fun _ _ _ h => h) (Or.inl ⟨by rfl, ?_⟩) ?_ ?_
      rotate_left
      ·intro w'
       go_simp
       with_reducible rfl
      rotate_left
      ·exact pt_
      refine pure_ (i := 5) (N := some 35) (v := ?_) (a' := ?_) #[true, true, true, true, true, true, false, false, false, false, false, false, false, false, false, false, false, false, false, false, false, false, false, false, false, false, false, false, false, false] rfl rfl (any_of HT_.out (by kernel_rfl)) (fun _ _ _ h => h) (Or.inl ⟨by rfl, ?_⟩) ?_ ?_
      rotate_left
      ·intro w'
       go_simp
       with_reducible rfl
      rotate_left
      ·exact pt_
      refine pure_ (i := 6) (N := some 36) (v := ?_) (a' := ?_) #[true, true, true, true, true, true, true, false, false, false, false, false, false, false, false, false, false, false, false, false, false, false, false, false, false, false, false, false, false, false] rfl rfl (any_of HT_.out (by kernel_rfl)) (fun _ _ _ h => h) (Or.inl ⟨by rfl, ?_⟩) ?_ ?_
      rotate_left
      ·intro w'
       go_simp
       with_reducible rfl
      rotate_left
      ·exact pt_
      refine take_ (i := 7) (N := some 37) (v := ?_) (a' := ?_) #[true, true, true, true, true, true, true, true, false, false, false, false, false, false, false, false, false, false, false, false, false, false, false, false, false, false, false, false, false, false] rfl rfl (take_ofW HT_.out HW_.out (by kernel_rfl)) (fun _ _ _ h => h) (Or.inl ⟨by rfl, ?_⟩) hHeld ?_ ?_
      rotate_left
      ·rintro w' ⟨s0, s1, s2, s3, s4, s5, s6, s7, s8, s9, s10, s11⟩
       go_simp
       with_reducible rfl
      rotate_left
      ·exact pt_
      refine take_ (i := 8) (N := some 38) (v := ?_) (a' := ?_) #[true, true, true, true, true, true, true, true, true, false, false, false, false, false, false, false, false, false, false, false, false, false, false, false, false, false, false, false, false, false] rfl rfl (take_ofW HT_.out HW_.out (by kernel_rfl)) (fun _ _ _ h => h) (Or.inl ⟨by rfl, ?_⟩) hHeld ?_ ?_
      rotate_left
      ·rintro w' ⟨s0, s1, s2, s3, s4, s5, s6, s7, s8, s9, s10, s11⟩
       go_simp
       with_reducible rfl
      rotate_left
      ·exact pt_
      refine one_ (i := 9) (N := some 39) #[true, true, true, true, true, true, true, true, true, true, false, false, false, false, false, false, false, false, false, false, false, false, false, false, false, false, false, false, false, false] rfl rfl (one_of HT_.out (by kernel_rfl)) (by decide) (fun K hK => ?_)
      refine gs_ Tryd.func17 #[.agg #[.int .i64 a0_0, .bool a0_1, .int .u64 a0_2, .int .i64 a0_3], .agg #[.int .i64 a2_0, .bool a2_1, .int .u64 a2_2, .int .i64 a2_3]] ?_
      with_reducible refine (num_Cmp.calls a0_0 a0_1 a0_2 a0_3 a2_0 a2_1 a2_2 a2_3 t753 _ A50.out).mono ?_
      rintro e w62 ⟨rfl, hb⟩
      refine ⟨_, rfl, ?_⟩
      replace HO739 := Aside0.mk (Kd.R_below (kr_ HO739.out) hb)
      replace HO747 := Aside0.mk (Kd.R_below (kr_ HO747.out) hb)
      replace BK731 := kq_ BK731 hb
      replace BK732 := kq_ BK732 hb
      replace BK733 := kq_ BK733 hb
      replace BK744 := kq_ BK744 hb
      replace BK752 := kq_ BK752 hb
      replace HB := bq_ HB hb
      (try clear hb)
      (try clear hb2)
      (try clear hk)
      (try clear hi)
      refine hK.out _ _ ⟨(blk_cell BK731.out 0).trans rfl, (blk_cell BK731.out 1).trans rfl, (blk_cell BK731.out 2).trans rfl, (blk_cell BK731.out 3).trans rfl, (blk_cell BK733.out 0).trans rfl, (blk_cell BK733.out 1).trans rfl, (blk_cell BK733.out 2).trans rfl, (blk_cell BK733.out 3).trans rfl, (blk_cell BK732.out 0).trans rfl, (blk_cell BK732.out 1).trans rfl, (blk_cell BK732.out 2).trans rfl, (blk_cell BK732.out 3).trans rfl⟩ (fun hHeld => ?_)
      clear hK K
      refine norm_ (a' := ?_) ?_ ?_
      rotate_left
      ·show Act.put _ (some 39) _ = _
       exact pt_
      refine pure_ (i := 10) (N := some 40) (v := ?_) (a' := ?_) #[true, true, true, true, true, true, true, true, true, true, true, false, false, false, false, false, false, false, false, false, false, false, false, false, false, false, false, false, false, false] rfl rfl (any_of HT_.out (by kernel_rfl)) (fun _ _ _ h => h) (Or.inl ⟨by rfl, ?_⟩) ?_ ?_
      rotate_left
      ·intro w'
       go_simp
       with_reducible rfl
      rotate_left
      ·exact pt_
      refine pure_ (i := 11) (N := some 41) (v := ?_) (a' := ?_) #[true, true, true, true, true, true, true, true, true, true, true, true, false, false, false, false, false, false, false, false, false, false, false, false, false, false, false, false, false, false] rfl rfl (any_of HT_.out (by kernel_rfl)) (fun _ _ _ h => h) (Or.inl ⟨by rfl, ?_⟩) ?_ ?_
      rotate_left
      ·intro w'
       go_simp
       with_reducible rfl
      rotate_left
      ·exact pt_
      refine pure_ (i := 12) (N := some 42) (v := ?_) (a' := ?_) #[true, true, true, true, true, true, true, true, true, true, true, true, true, false, false, false, false, false, false, false, false, false, false, false, false, false, false, false, false, false] rfl rfl (any_of HT_.out (by kernel_rfl)) (fun _ _ _ h => h) (Or.inl ⟨by rfl, ?_⟩) ?_ ?_
      rotate_left
      ·intro w'
       go_simp
       with_reducible rfl
      rotate_left
      ·exact pt_
      refine pure_ (i := 16) (N := some 46) (v := ?_) (a' := ?_) #[true, true, true, true, true, true, true, true, true, true, true, true, true, false, false, false, true, false, false, false, false, false, false, false, false, false, false, false, false, false] rfl rfl (any_of HT_.out (by kernel_rfl)) (fun _ _ _ h => h) (Or.inl ⟨by rfl, ?_⟩) ?_ ?_
      rotate_left
      ·intro w'
       go_simp
       with_reducible rfl
      rotate_left
      ·exact pt_
      refine pure_ (i := 17) (N := some 47) (v := ?_) (a' := ?_) #[true, true, true, true, true, true, true, true, true, true, true, true, true, false, false, false, true, true, false, false, false, false, false, false, false, false, false, false, false, false] rfl rfl (any_of HT_.out (by kernel_rfl)) (fun _ _ _ h => h) (Or.inl ⟨by rfl, ?_⟩) ?_ ?_
      rotate_left
      ·intro w'
       go_simp
       with_reducible rfl
      rotate_left
      ·exact pt_
      refine take_ (i := 13) (N := some 43) (v := ?_) (a' := ?_) #[true, true, true, true, true, true, true, true, true, true, true, true, true, true, false, false, true, true, false, false, false, false, false, false, false, false, false, false, false, false] rfl rfl (take_ofW HT_.out HW_.out (by kernel_rfl)) (fun _ _ _ h => h) (Or.inl ⟨by rfl, ?_⟩) hHeld ?_ ?_
      rotate_left
      ·rintro w' ⟨s0, s1, s2, s3, s4, s5, s6, s7, s8, s9, s10, s11⟩
       go_simp
       with_reducible rfl
      rotate_left
      ·exact pt_
      refine take_ (i := 14) (N := some 44) (v := ?_) (a' := ?_) #[true, true, true, true, true, true, true, true, true, true, true, true, true, true, true, false, true, true, false, false, false, false, false, false, false, false, false, false, false, false] rfl rfl (take_ofW HT_.out HW_.out (by kernel_rfl)) (fun _ _ _ h => h) (Or.inl ⟨by rfl, ?_⟩) hHeld ?_ ?_
      rotate_left
      ·rintro w' ⟨s0, s1, s2, s3, s4, s5, s6, s7, s8, s9, s10, s11⟩
       go_simp
       with_reducible rfl
      rotate_left
      ·exact pt_
      refine one_ (i := 15) (N := some 45) #[true, true, true, true, true, true, true, true, true, true, true, true, true, true, true, true, true, true, false, false, false, false, false, false, false, false, false, false, false, false] rfl rfl (one_of HT_.out (by kernel_rfl)) (by decide) (fun K hK => ?_)
      refine gs_ Tryd.func17 #[.agg #[.int .i64 a1_0, .bool a1_1, .int .u64 a1_2, .int .i64 a1_3], .agg #[.int .i64 a0_0, .bool a0_1, .int .u64 a0_2, .int .i64 a0_3]] ?_
      with_reducible refine (num_Cmp.calls a1_0 a1_1 a1_2 a1_3 a0_0 a0_1 a0_2 a0_3 t754 _ A55.out).mono ?_
      rintro e w63 ⟨rfl, hb⟩
      refine ⟨_, rfl, ?_⟩
      replace HO739 := Aside0.mk (Kd.R_below (kr_ HO739.out) hb)
      replace HO747 := Aside0.mk (Kd.R_below (kr_ HO747.out) hb)
      replace BK731 := kq_ BK731 hb
      replace BK732 := kq_ BK732 hb
      replace BK733 := kq_ BK733 hb
      replace BK744 := kq_ BK744 hb
      replace BK752 := kq_ BK752 hb
      replace HB := bq_ HB hb
      (try clear hb)
      (try clear hb2)
      (try clear hk)
      (try clear hi)
      refine hK.out _ _ ⟨(blk_cell BK731.out 0).trans rfl, (blk_cell BK731.out 1).trans rfl, (blk_cell BK731.out 2).trans rfl, (blk_cell BK731.out 3).trans rfl, (blk_cell BK733.out 0).trans rfl, (blk_cell BK733.out 1).trans rfl, (blk_cell BK733.out 2).trans rfl, (blk_cell BK733.out 3).trans rfl, (blk_cell BK732.out 0).trans rfl, (blk_cell BK732.out 1).trans rfl, (blk_cell BK732.out 2).trans rfl, (blk_cell BK732.out 3).trans rfl⟩ (fun hHeld => ?_)
      clear hK K
      refine norm_ (a' := ?_) ?_ ?_
      rotate_left
      ·show Act.put _ (some 45) _ = _
       exact pt_
      refine pure_ (i := 18) (N := some 48) (v := ?_) (a' := ?_) #[true, true, true, true, true, true, true, true, true, true, true, true, true, true, true, true, true, true, true, false, false, false, false, false, false, false, false, false, false, false] rfl rfl (any_of HT_.out (by kernel_rfl)) (fun _ _ _ h => h) (Or.inl ⟨by rfl, ?_⟩) ?_ ?_
      rotate_left
      ·intro w'
       go_simp
       with_reducible rfl
      rotate_left
      ·exact pt_
      refine pure_ (i := 19) (N := some 49) (v := ?_) (a' := ?_) #[true, true, true, true, true, true, true, true, true, true, true, true, true, true, true, true, true, true, true, true, false, false, false, false, false, false, false, false, false, false] rfl rfl (any_of HT_.out (by kernel_rfl)) (fun _ _ _ h => h) (Or.inl ⟨by rfl, ?_⟩) ?_ ?_
      rotate_left
      ·intro w'
       go_simp
       with_reducible rfl
      rotate_left
      ·exact pt_
      refine pure_ (i := 20) (N := some 50) (v := ?_) (a' := ?_) #[true, true, true, true, true, true, true, true, true, true, true, true, true, true, true, true, true, true, true, true, true, false, false, false, false, false, false, false, false, false] rfl rfl (any_of HT_.out (by kernel_rfl)) (fun _ _ _ h => h) (Or.inl ⟨by rfl, ?_⟩) ?_ ?_
      rotate_left
      ·intro w'
       go_simp
       with_reducible rfl
      rotate_left
      ·exact pt_
      refine pure_ (i := 26) (N := some 56) (v := ?_) (a' := ?_) #[true, true, true, true, true, true, true, true, true, true, true, true, true, true, true, true, true, true, true, true, true, false, false, false, false, false, true, false, false, false] rfl rfl (any_of HT_.out (by kernel_rfl)) (fun _ _ _ h => h) (Or.inl ⟨by rfl, ?_⟩) ?_ ?_
      rotate_left
      ·intro w'
       go_simp
       with_reducible rfl
      rotate_left
      ·exact pt_
      refine pure_ (i := 27) (N := some 57) (v := ?_) (a' := ?_) #[true, true, true, true, true, true, true, true, true, true, true, true, true, true, true, true, true, true, true, true, true, false, false, false, false, false, true, true, false, false] rfl rfl (any_of HT_.out (by kernel_rfl)) (fun _ _ _ h => h) (Or.inl ⟨by rfl, ?_⟩) ?_ ?_
      rotate_left
      ·intro w'
       go_simp
       with_reducible rfl
      rotate_left
      ·exact pt_
      refine take_ (i := 21) (N := some 51) (v := ?_) (a' := ?_) #[true, true, true, true, true, true, true, true, true, true, true, true, true, true, true, true, true, true, true, true, true, true, false, false, false, false, true, true, false, false] rfl rfl (take_ofW HT_.out HW_.out (by kernel_rfl)) (fun _ _ _ h => h) (Or.inl ⟨by rfl, ?_⟩) hHeld ?_ ?_
      rotate_left
      ·rintro w' ⟨s0, s1, s2, s3, s4, s5, s6, s7, s8, s9, s10, s11⟩
       go_simp
       with_reducible rfl
      rotate_left
      ·exact pt_
      refine take_ (i := 23) (N := some 53) (v := ?_) (a' := ?_) #[true, true, true, true, true, true, true, true, true, true, true, true, true, true, true, true, true, true, true, true, true, true, false, true, false, false, true, true, false, false] rfl rfl (take_ofW HT_.out HW_.out (by kernel_rfl)) (fun _ _ _ h => h) (Or.inl ⟨by rfl, ?_⟩) hHeld ?_ ?_
      rotate_left
      ·rintro w' ⟨s0, s1, s2, s3, s4, s5, s6, s7, s8, s9, s10, s11⟩
       go_simp
       with_reducible rfl
      rotate_left
      ·exact pt_
      refine one_ (i := 22) (N := some 52) #[true, true, true, true, true, true, true, true, true, true, true, true, true, true, true, true, true, true, true, true, true, true, true, true, false, false, true, true, false, false] rfl rfl (one_of HT_.out (by kernel_rfl)) (by decide) (fun K hK => ?_)
      refine gs_ Tryd.func16 #[.agg #[.int .i64 a0_0, .bool a0_1, .int .u64 a0_2, .int .i64 a0_3]] ?_
      with_reducible refine (num_Neg.calls a0_0 a0_1 a0_2 a0_3 t755 t756 t757 t758 _ A57.out).mono ?_
      rintro e w64 ⟨rfl, hb⟩
      refine ⟨_, rfl, ?_⟩
      replace HO739 := Aside0.mk (Kd.R_below (kr_ HO739.out) hb)
      replace HO747 := Aside0.mk (Kd.R_below (kr_ HO747.out) hb)
      replace BK731 := kq_ BK731 hb
      replace BK732 := kq_ BK732 hb
      replace BK733 := kq_ BK733 hb
      replace BK744 := kq_ BK744 hb
      replace BK752 := kq_ BK752 hb
      replace HB := bq_ HB hb
      (try clear hb)
      (try clear hb2)
      (try clear hk)
      (try clear hi)
      refine hK.out _ _ ⟨(blk_cell BK731.out 0).trans rfl, (blk_cell BK731.out 1).trans rfl, (blk_cell BK731.out 2).trans rfl, (blk_cell BK731.out 3).trans rfl, (blk_cell BK733.out 0).trans rfl, (blk_cell BK733.out 1).trans rfl, (blk_cell BK733.out 2).trans rfl, (blk_cell BK733.out 3).trans rfl, (blk_cell BK732.out 0).trans rfl, (blk_cell BK732.out 1).trans rfl, (blk_cell BK732.out 2).trans rfl, (blk_cell BK732.out 3).trans rfl⟩ (fun hHeld => ?_)
      clear hK K
      refine norm_ (a' := ?_) ?_ ?_
      rotate_left
      ·show Act.put _ (some 52) _ = _
       exact pt_
      refine one_ (i := 24) (N := some 54) #[true, true, true, true, true, true, true, true, true, true, true, true, true, true, true, true, true, true, true, true, true, true, true, true, true, false, true, true, false, false] rfl rfl (one_of HT_.out (by kernel_rfl)) (by decide) (fun K hK => ?_)
      refine gs_ Tryd.func16 #[.agg #[.int .i64 a1_0, .bool a1_1, .int .u64 a1_2, .int .i64 a1_3]] ?_
      with_reducible refine (num_Neg.calls a1_0 a1_1 a1_2 a1_3 t759 t760 t761 t762 _ A58.out).mono ?_
      rintro e w65 ⟨rfl, hb⟩
      refine ⟨_, rfl, ?_⟩
      replace HO739 := Aside0.mk (Kd.R_below (kr_ HO739.out) hb)
      replace HO747 := Aside0.mk (Kd.R_below (kr_ HO747.out) hb)
      replace BK731 := kq_ BK731 hb
      replace BK732 := kq_ BK732 hb
      replace BK733 := kq_ BK733 hb
      replace BK744 := kq_ BK744 hb
      replace BK752 := kq_ BK752 hb
      replace HB := bq_ HB hb
      (try clear hb)
      (try clear hb2)
      (try clear hk)
      (try clear hi)
      refine hK.out _ _ ⟨(blk_cell BK731.out 0).trans rfl, (blk_cell BK731.out 1).trans rfl, (blk_cell BK731.out 2).trans rfl, (blk_cell BK731.out 3).trans rfl, (blk_cell BK733.out 0).trans rfl, (blk_cell BK733.out 1).trans rfl, (blk_cell BK733.out 2).trans rfl, (blk_cell BK733.out 3).trans rfl, (blk_cell BK732.out 0).trans rfl, (blk_cell BK732.out 1).trans rfl, (blk_cell BK732.out 2).trans rfl, (blk_cell BK732.out 3).trans rfl⟩ (fun hHeld => ?_)
      clear hK K
      refine norm_ (a' := ?_) ?_ ?_
      rotate_left
      ·show Act.put _ (some 54) _ = _
       exact pt_
      refine one_ (i := 25) (N := some 55) #[true, true, true, true, true, true, true, true, true, true, true, true, true, true, true, true, true, true, true, true, true, true, true, true, true, true, true, true, false, false] rfl rfl (one_of HT_.out (by kernel_rfl)) (by decide) (fun K hK => ?_)
      refine gs_ Tryd.func17 #[.agg #[.int .i64 t755, .bool t756, .int .u64 t757, .int .i64 t758], .agg #[.int .i64 t759, .bool t760, .int .u64 t761, .int .i64 t762]] ?_
      with_reducible refine (num_Cmp.calls t755 t756 t757 t758 t759 t760 t761 t762 t763 _ A59.out).mono ?_
      rintro e w66 ⟨rfl, hb⟩
      refine ⟨_, rfl, ?_⟩
      replace HO739 := Aside0.mk (Kd.R_below (kr_ HO739.out) hb)
      replace HO747 := Aside0.mk (Kd.R_below (kr_ HO747.out) hb)
      replace BK731 := kq_ BK731 hb
      replace BK732 := kq_ BK732 hb
      replace BK733 := kq_ BK733 hb
      replace BK744 := kq_ BK744 hb
      replace BK752 := kq_ BK752 hb
      replace HB := bq_ HB hb
      (try clear hb)
      (try clear hb2)
      (try clear hk)
      (try clear hi)
      refine hK.out _ _ ⟨(blk_cell BK731.out 0).trans rfl, (blk_cell BK731.out 1).trans rfl, (blk_cell BK731.out 2).trans rfl, (blk_cell BK731.out 3).trans rfl, (blk_cell BK733.out 0).trans rfl, (blk_cell BK733.out 1).trans rfl, (blk_cell BK733.out 2).trans rfl, (blk_cell BK733.out 3).trans rfl, (blk_cell BK732.out 0).trans rfl, (blk_cell BK732.out 1).trans rfl, (blk_cell BK732.out 2).trans rfl, (blk_cell BK732.out 3).trans rfl⟩ (fun hHeld => ?_)
      clear hK K
      refine norm_ (a' := ?_) ?_ ?_
      rotate_left
      ·show Act.put _ (some 55) _ = _
       exact pt_
      refine pure_ (i := 28) (N := some 58) (v := ?_) (a' := ?_) #[true, true, true, true, true, true, true, true, true, true, true, true, true, true, true, true, true, true, true, true, true, true, true, true, true, true, true, true, true, false] rfl rfl (any_of HT_.out (by kernel_rfl)) (fun _ _ _ h => h) (Or.inl ⟨by rfl, ?_⟩) ?_ ?_
      rotate_left
      ·intro w'
       go_simp
       with_reducible rfl
      rotate_left
      ·exact pt_
      refine pure_ (i := 29) (N := some 59) (v := ?_) (a' := ?_) #[true, true, true, true, true, true, true, true, true, true, true, true, true, true, true, true, true, true, true, true, true, true, true, true, true, true, true, true, true, true] rfl rfl (any_of HT_.out (by kernel_rfl)) (fun _ _ _ h => h) (Or.inl ⟨by rfl, ?_⟩) ?_ ?_
      rotate_left
      ·intro w'
       go_simp
       with_reducible rfl
      rotate_left
      ·exact pt_
      refine done_ (done_of HT_.out (by kernel_rfl)) ?_
      try go_wp2
      go_meet
      case rel => exact ⟨_, ((t763 != (wrap64 (-t735)))), (by first | rfl | (simp; done) | (simp [*]; done)), H', ⟨by first | omega | exact Nat.le_refl _⟩, ⟨kb_ BK731.out⟩, ⟨kb_ BK732.out⟩, ⟨kb_ BK733.out⟩, ⟨kb_ BK744.out⟩, ⟨kb_ BK752.out⟩, ⟨bw_ HB.out⟩⟩
     ·rw [if_neg c56] at H
      have c56b0 : (t754 == (wrap64 (-t735))) = false := beq_eq_false_iff_ne.mpr c56
      have c56b1 : (t754 != (wrap64 (-t735))) = true := bne_iff_ne.mpr c56
      have H' := Aside0.mk H
      clear H
      try go_wp2
      have n0_ : Aside0 (Kd.R k30 30 ((((w42.setCell ⟨gb752, 0, none⟩ (.int .i64 t748)).setCell ⟨gb752, 1, none⟩ (.bool t749)).setCell ⟨gb752, 2, none⟩ (.int .u64 t750)).setCell ⟨gb752, 3, none⟩ (.int .i64 t751)) w.heap.size (fun k_ => some k_ ≠ (.slice Ao40 y745.length co40 : Value).ownBlock ∧ k_ ≠ gb731 ∧ k_ ≠ gb732 ∧ k_ ≠ gb733 ∧ k_ ≠ gb744 ∧ k_ ≠ gb752) (.slice Ao28 y737.length co28) y737) := ⟨by (with_reducible repeat (first | apply Kd.R_alloc | apply Kd.R_drewN | apply Kd.R_drew)); exact Kd.R_mono (Kd.R_far (p := ⟨gb752, 3, none⟩) (Kd.R_far (p := ⟨gb752, 2, none⟩) (Kd.R_far (p := ⟨gb752, 1, none⟩) (Kd.R_far (p := ⟨gb752, 0, none⟩) (Kd.R_mono HO739.out (fun k_ hk => (⟨hk, hk.2⟩ : _ ∧ k_ ≠ gb752))) (fun _ hk => hk.2) (.int .i64 t748)) (fun _ hk => hk.2) (.bool t749)) (fun _ hk => hk.2) (.int .u64 t750)) (fun _ hk => hk.2) (.int .i64 t751)) (fun _ hk => ⟨hk.1.1.2, ⟨hk.1.1.1.1.1.1.2, ⟨hk.1.1.1.1.1.2, ⟨hk.1.1.1.1.2, ⟨hk.1.1.1.2, hk.1.2⟩⟩⟩⟩⟩)⟩
      have n1_ : Aside0 (Kd.R k30 30 ((((w42.setCell ⟨gb752, 0, none⟩ (.int .i64 t748)).setCell ⟨gb752, 1, none⟩ (.bool t749)).setCell ⟨gb752, 2, none⟩ (.int .u64 t750)).setCell ⟨gb752, 3, none⟩ (.int .i64 t751)) w.heap.size (fun k_ => some k_ ≠ (.slice Ao28 y737.length co28 : Value).ownBlock ∧ k_ ≠ gb731 ∧ k_ ≠ gb732 ∧ k_ ≠ gb733 ∧ k_ ≠ gb744 ∧ k_ ≠ gb752) (.slice Ao40 y745.length co40) y745) := ⟨by (with_reducible repeat (first | apply Kd.R_alloc | apply Kd.R_drewN | apply Kd.R_drew)); exact Kd.R_mono (Kd.R_far (p := ⟨gb752, 3, none⟩) (Kd.R_far (p := ⟨gb752, 2, none⟩) (Kd.R_far (p := ⟨gb752, 1, none⟩) (Kd.R_far (p := ⟨gb752, 0, none⟩) (Kd.R_mono HO747.out (fun k_ hk => (⟨hk, hk.2⟩ : _ ∧ k_ ≠ gb752))) (fun _ hk => hk.2) (.int .i64 t748)) (fun _ hk => hk.2) (.bool t749)) (fun _ hk => hk.2) (.int .u64 t750)) (fun _ hk => hk.2) (.int .i64 t751)) (fun _ hk => ⟨hk.1.1.1.1.1.1.2, ⟨hk.1.1.1.1.1.2, ⟨hk.1.1.1.1.2, ⟨hk.1.1.1.2, ⟨hk.1.1.2, hk.1.2⟩⟩⟩⟩⟩)⟩
      have n2_ : Aside0 (((((w42.setCell ⟨gb752, 0, none⟩ (.int .i64 t748)).setCell ⟨gb752, 1, none⟩ (.bool t749)).setCell ⟨gb752, 2, none⟩ (.int .u64 t750)).setCell ⟨gb752, 3, none⟩ (.int .i64 t751)).heap[gb731]? = some (.cells #[.int .i64 a0_0, .bool a0_1, .int .u64 a0_2, .int .i64 a0_3] 30 (0, 0))) := ⟨by refine kb_ ?_; refine bf_ NB731_752 ?_; refine bf_ NB731_752 ?_; refine bf_ NB731_752 ?_; refine bf_ NB731_752 ?_; exact BK731.out⟩
      have n3_ : Aside0 (((((w42.setCell ⟨gb752, 0, none⟩ (.int .i64 t748)).setCell ⟨gb752, 1, none⟩ (.bool t749)).setCell ⟨gb752, 2, none⟩ (.int .u64 t750)).setCell ⟨gb752, 3, none⟩ (.int .i64 t751)).heap[gb732]? = some (.cells #[.int .i64 a1_0, .bool a1_1, .int .u64 a1_2, .int .i64 a1_3] 30 (0, 0))) := ⟨by refine kb_ ?_; refine bf_ NB732_752 ?_; refine bf_ NB732_752 ?_; refine bf_ NB732_752 ?_; refine bf_ NB732_752 ?_; exact BK732.out⟩
      have n4_ : Aside0 (((((w42.setCell ⟨gb752, 0, none⟩ (.int .i64 t748)).setCell ⟨gb752, 1, none⟩ (.bool t749)).setCell ⟨gb752, 2, none⟩ (.int .u64 t750)).setCell ⟨gb752, 3, none⟩ (.int .i64 t751)).heap[gb733]? = some (.cells #[.int .i64 a2_0, .bool a2_1, .int .u64 a2_2, .int .i64 a2_3] 30 (0, 0))) := ⟨by refine kb_ ?_; refine bf_ NB733_752 ?_; refine bf_ NB733_752 ?_; refine bf_ NB733_752 ?_; refine bf_ NB733_752 ?_; exact BK733.out⟩
      have n5_ : Aside0 (((((w42.setCell ⟨gb752, 0, none⟩ (.int .i64 t748)).setCell ⟨gb752, 1, none⟩ (.bool t749)).setCell ⟨gb752, 2, none⟩ (.int .u64 t750)).setCell ⟨gb752, 3, none⟩ (.int .i64 t751)).heap[gb744]? = some (.cells #[.int .i64 t740, .bool t741, .int .u64 t742, .int .i64 t743] 30 (0, 0))) := ⟨by refine kb_ ?_; refine bf_ NB744_752 ?_; refine bf_ NB744_752 ?_; refine bf_ NB744_752 ?_; refine bf_ NB744_752 ?_; exact BK744.out⟩
      have n6_ : Aside0 (((((w42.setCell ⟨gb752, 0, none⟩ (.int .i64 t748)).setCell ⟨gb752, 1, none⟩ (.bool t749)).setCell ⟨gb752, 2, none⟩ (.int .u64 t750)).setCell ⟨gb752, 3, none⟩ (.int .i64 t751)).heap[gb752]? = some (.cells #[.int .i64 t748, .bool t749, .int .u64 t750, .int .i64 t751] 30 (0, 0))) := ⟨by refine kb_ ?_; refine bp_ #[.int .i64 t748, .bool t749, .int .u64 t750, .int .i64 0] 3 ?_; refine bp_ #[.int .i64 t748, .bool t749, .int .u64 0, .int .i64 0] 2 ?_; refine bp_ #[.int .i64 t748, .bool false, .int .u64 0, .int .i64 0] 1 ?_; refine bp_ #[.int .i64 0, .bool false, .int .u64 0, .int .i64 0] 0 ?_; exact BK752.out⟩
      have n7_ : Aside0 (Below w.heap.size w ((((w42.setCell ⟨gb752, 0, none⟩ (.int .i64 t748)).setCell ⟨gb752, 1, none⟩ (.bool t749)).setCell ⟨gb752, 2, none⟩ (.int .u64 t750)).setCell ⟨gb752, 3, none⟩ (.int .i64 t751))) := ⟨bw_ HB.out⟩
      (try clear HO739)
      (try clear HO747)
      (try clear BK731)
      (try clear BK732)
      (try clear BK733)
      (try clear BK744)
      (try clear BK752)
      (try clear HB)
      generalize ((((w42.setCell ⟨gb752, 0, none⟩ (.int .i64 t748)).setCell ⟨gb752, 1, none⟩ (.bool t749)).setCell ⟨gb752, 2, none⟩ (.int .u64 t750)).setCell ⟨gb752, 3, none⟩ (.int .i64 t751)) = w67 at n0_ n1_ n2_ n3_ n4_ n5_ n6_ n7_ ⊢
      have HO739 := n0_
      have HO747 := n1_
      have BK731 := n2_
      have BK732 := n3_
      have BK733 := n4_
      have BK744 := n5_
      have BK752 := n6_
      have HB := n7_
      clear n0_ n1_ n2_ n3_ n4_ n5_ n6_ n7_
      replace HO739 := Aside0.mk (Kd.R_drew HO739.out)
      replace HO747 := Aside0.mk (Kd.R_drew HO747.out)
      replace BK731 := Aside0.mk (blk_drew BK731.out)
      replace BK732 := Aside0.mk (blk_drew BK732.out)
      replace BK733 := Aside0.mk (blk_drew BK733.out)
      replace BK744 := Aside0.mk (blk_drew BK744.out)
      replace BK752 := Aside0.mk (blk_drew BK752.out)
      replace HB := Aside0.mk (below_drew1 HB.out)
      refine start_ (n := 30) (S := fun w' => w'.cell? ⟨gb731, 0, none⟩ = some (.int .i64 a0_0) ∧ w'.cell? ⟨gb731, 1, none⟩ = some (.bool a0_1) ∧ w'.cell? ⟨gb731, 2, none⟩ = some (.int .u64 a0_2) ∧ w'.cell? ⟨gb731, 3, none⟩ = some (.int .i64 a0_3) ∧ w'.cell? ⟨gb733, 0, none⟩ = some (.int .i64 a2_0) ∧ w'.cell? ⟨gb733, 1, none⟩ = some (.bool a2_1) ∧ w'.cell? ⟨gb733, 2, none⟩ = some (.int .u64 a2_2) ∧ w'.cell? ⟨gb733, 3, none⟩ = some (.int .i64 a2_3) ∧ w'.cell? ⟨gb732, 0, none⟩ = some (.int .i64 a1_0) ∧ w'.cell? ⟨gb732, 1, none⟩ = some (.bool a1_1) ∧ w'.cell? ⟨gb732, 2, none⟩ = some (.int .u64 a1_2) ∧ w'.cell? ⟨gb732, 3, none⟩ = some (.int .i64 a1_3)) (ds := []) #[false, false, false, false, false, false, false, false, false, false, false, false, false, false, false, false, false, false, false, false, false, false, false, false, false, false, false, false, false, false] (by kernel_rfl) rfl rfl ⟨(blk_cell BK731.out 0).trans rfl, (blk_cell BK731.out 1).trans rfl, (blk_cell BK731.out 2).trans rfl, (blk_cell BK731.out 3).trans rfl, (blk_cell BK733.out 0).trans rfl, (blk_cell BK733.out 1).trans rfl, (blk_cell BK733.out 2).trans rfl, (blk_cell BK733.out 3).trans rfl, (blk_cell BK732.out 0).trans rfl, (blk_cell BK732.out 1).trans rfl, (blk_cell BK732.out 2).trans rfl, (blk_cell BK732.out 3).trans rfl⟩ (fun hHeld => ?_); refine with_tabW peloruslaw05_NumOrder.tab6 peloruslaw05_NumOrder.bits6 (fun HT_ HW_ => ?_)
      generalize w67.drew = w68 at HO739 HO747 BK731 BK732 BK733 BK744 BK752 HB hHeld ⊢
      refine pure_ (i := 0) (N := some 30) (v := ?_) (a' := ?_) #[true, false, false, false, false, false, false, false, false, false, false, false, false, false, false, false, false, false, false, false, false, false, false, false, false, false, false, false, false, false] rfl rfl (any_of HT_.out (by kernel_rfl)) (fun _ _ _ h => h) (Or.inl ⟨by rfl, ?_⟩) ?_ ?_
      rotate_left
      ·intro w'
       go_simp
       with_reducible rfl
      rotate_left
      ·exact pt_
      refine pure_ (i := 1) (N := some 31) (v := ?_) (a' := ?_) #[true, true, false, false, false, false, false, false, false, false, false, false, false, false, false, false, false, false, false, false, false, false, false, false, false, false, false, false, false, false] rfl rfl (any_of HT_.out (by kernel_rfl)) (fun _ _ _ h => h) (Or.inl ⟨by rfl, ?_⟩) ?_ ?_
      rotate_left
      ·intro w'
       go_simp
       with_reducible rfl
      rotate_left
      ·exact pt_
      refine pure_ (i := 2) (N := some 32) (v := ?_) (a' := ?_) #[true, true, true, false, false, false, false, false, false, false, false, false, false, false, false, false, false, false, false, false, false, false, false, false, false, false, false, false, false, false] rfl rfl (any_of HT_.out (by kernel_rfl)) (fun _ _ _ h => h) (Or.inl ⟨by rfl, ?_⟩) ?_ ?_
      rotate_left
      ·intro w'
       go_simp
       with_reducible rfl
      rotate_left
      ·exact pt_
      refine pure_ (i := 3) (N := some 33) (v := ?_) (a' := ?_) #[true, true, true, true, false, false, false, false, false, false, false, false, false, false, false, false, false, false, false, false, false, false, false, false, false, false, false, false, false, false] rfl rfl (any_of HT_.out (by kernel_rfl)) (fun _ _ _ h => h) (Or.inl ⟨by rfl, ?_⟩) ?_ ?_
      rotate_left
      ·intro w'
       go_simp
       with_reducible rfl
      rotate_left
      ·exact pt_
      refine pure_ (i := 4) (N := some 34) (v := ?_) (a' := ?_) #[true, true, true, true, true, false, false, false, false, false, false, false, false, false, false, false, false, false, false, false, false, false, false, false, false, false, false, false, false, false] rfl rfl (any_of HT_.out (by kernel_rfl)) (fun _ _ _ h => h) (Or.inl ⟨by rfl, ?_⟩) ?_ ?_
      rotate_left
      ·intro w'
       go_simp
       with_reducible rfl
      rotate_left
      ·exact pt_
      refine pure_ (i := 5) (N := some 35) (v := ?_) (a' := ?_) #[true, true, true, true, true, true, false, false, false, false, false, false, false, false, false, false, false, false, false, false, false, false, false, false, false, false, false, false, false, false] rfl rfl (any_of HT_.out (by kernel_rfl)) (fun _ _ _ h => h) (Or.inl ⟨by rfl, ?_⟩) ?_ ?_
      rotate_left
      ·intro w'
       go_simp
       with_reducible rfl
      rotate_left
      ·exact pt_
      refine pure_ (i := 6) (N := some 36) (v := ?_) (a' := ?_) #[true, true, true, true, true, true, true, false, false, false, false, false, false, false, false, false, false, false, false, false, false, false, false, false, false, false, false, false, false, false] rfl rfl (any_of HT_.out (by kernel_rfl)) (fun _ _ _ h => h) (Or.inl ⟨by rfl, ?_⟩) ?_ ?_
      rotate_left
      ·intro w'
       go_simp
       with_reducible rfl
      rotate_left
      ·exact pt_
      refine take_ (i := 7) (N := some 37) (v := ?_) (a' := ?_) #[true, true, true, true, true, true, true, true, false, false, false, false, false, false, false, false, false, false, false, false, false, false, false, false, false, false, false, false, false, false] rfl rfl (take_ofW HT_.out HW_.out (by kernel_rfl)) (fun _ _ _ h => h) (Or.inl ⟨by rfl, ?_⟩) hHeld ?_ ?_
      rotate_left
      ·rintro w' ⟨s0, s1, s2, s3, s4, s5, s6, s7, s8, s9, s10, s11⟩
       go_simp
       with_reducible rfl
      rotate_left
      ·exact pt_
      refine take_ (i := 8) (N := some 38) (v := ?_) (a' := ?_) #[true, true, true, true, true, true, true, true, true, false, false, false, false, false, false, false, false, false, false, false, false, false, false, false, false, false, false, false, false, false] rfl rfl (take_ofW HT_.out HW_.out (by kernel_rfl)) (fun _ _ _ h => h) (Or.inl ⟨by rfl, ?_⟩) hHeld ?_ ?_
      rotate_left
      ·rintro w' ⟨s0, s1, s2, s3, s4, s5, s6, s7, s8, s9, s10, s11⟩
       go_simp
       with_reducible rfl
      rotate_left
      ·exact pt_
      refine one_ (i := 9) (N := some 39) #[true, true, true, true, true, true, true, true, true, true, false, false, false, false, false, false, false, false, false, false, false, false, false, false, false, false, false, false, false, false] rfl rfl (one_of HT_.out (by kernel_rfl)) (by decide) (fun K hK => ?_)
      refine gs_ Tryd.func17 #[.agg #[.int .i64 a0_0, .bool a0_1, .int .u64 a0_2, .int .i64 a0_3], .agg #[.int .i64 a2_0, .bool a2_1, .int .u64 a2_2, .int .i64 a2_3]] ?_
      with_reducible refine (num_Cmp.calls a0_0 a0_1 a0_2 a0_3 a2_0 a2_1 a2_2 a2_3 t753 _ A50.out).mono ?_
      rintro e w69 ⟨rfl, hb⟩
      refine ⟨_, rfl, ?_⟩
      replace HO739 := Aside0.mk (Kd.R_below (kr_ HO739.out) hb)
      replace HO747 := Aside0.mk (Kd.R_below (kr_ HO747.out) hb)
      replace BK731 := kq_ BK731 hb
      replace BK732 := kq_ BK732 hb
      replace BK733 := kq_ BK733 hb
      replace BK744 := kq_ BK744 hb
      replace BK752 := kq_ BK752 hb
      replace HB := bq_ HB hb
      (try clear hb)
      (try clear hb2)
      (try clear hk)
      (try clear hi)
      refine hK.out _ _ ⟨(blk_cell BK731.out 0).trans rfl, (blk_cell BK731.out 1).trans rfl, (blk_cell BK731.out 2).trans rfl, (blk_cell BK731.out 3).trans rfl, (blk_cell BK733.out 0).trans rfl, (blk_cell BK733.out 1).trans rfl, (blk_cell BK733.out 2).trans rfl, (blk_cell BK733.out 3).trans rfl, (blk_cell BK732.out 0).trans rfl, (blk_cell BK732.out 1).trans rfl, (blk_cell BK732.out 2).trans rfl, (blk_cell BK732.out 3).trans rfl⟩ (fun hHeld => ?_)
      clear hK K
      refine norm_ (a' := ?_) ?_ ?_
      rotate_left
      ·show Act.put _ (some 39) _ = _
       exact pt_
      refine pure_ (i := 10) (N := some 40) (v := ?_) (a' := ?_) #[true, true, true, true, true, true, true, true, true, true, true, false, false, false, false, false, false, false, false, false, false, false, false, false, false, false, false, false, false, false] rfl rfl (any_of HT_.out (by kernel_rfl)) (fun _ _ _ h => h) (Or.inl ⟨by rfl, ?_⟩) ?_ ?_
      rotate_left
      ·intro w'
       go_simp
       with_reducible rfl
      rotate_left
      ·exact pt_
      refine pure_ (i := 11) (N := some 41) (v := ?_) (a' := ?_) #[true, true, true, true, true, true, true, true, true, true, true, true, false, false, false, false, false, false, false, false, false, false, false, false, false, false, false, false, false, false] rfl rfl (any_of HT_.out (by kernel_rfl)) (fun _ _ _ h => h) (Or.inl ⟨by rfl, ?_⟩) ?_ ?_
      rotate_left
      ·intro w'
       go_simp
       with_reducible rfl
      rotate_left
      ·exact pt_
      refine pure_ (i := 12) (N := some 42) (v := ?_) (a' := ?_) #[true, true, true, true, true, true, true, true, true, true, true, true, true, false, false, false, false, false, false, false, false, false, false, false, false, false, false, false, false, false] rfl rfl (any_of HT_.out (by kernel_rfl)) (fun _ _ _ h => h) (Or.inl ⟨by rfl, ?_⟩) ?_ ?_
      rotate_left
      ·intro w'
       go_simp
       with_reducible rfl
      rotate_left
      ·exact pt_
      refine pure_ (i := 16) (N := some 46) (v := ?_) (a' := ?_) #[true, true, true, true, true, true, true, true, true, true, true, true, true, false, false, false, true, false, false, false, false, false, false, false, false, false, false, false, false, false] rfl rfl (any_of HT_.out (by kernel_rfl)) (fun _ _ _ h => h) (Or.inl ⟨by rfl, ?_⟩) ?_ ?_
      rotate_left
      ·intro w'
       go_simp
       with_reducible rfl
      rotate_left
      ·exact pt_
      refine pure_ (i := 17) (N := some 47) (v := ?_) (a' := ?_) #[true, true, true, true, true, true, true, true, true, true, true, true, true, false, false, false, true, true, false, false, false, false, false, false, false, false, false, false, false, false] rfl rfl (any_of HT_.out (by kernel_rfl)) (fun _ _ _ h => h) (Or.inl ⟨by rfl, ?_⟩) ?_ ?_
      rotate_left
      ·intro w'
       go_simp
       with_reducible rfl
      rotate_left
      ·exact pt_
      refine take_ (i := 13) (N := some 43) (v := ?_) (a' := ?_) #[true, true, true, true, true, true, true, true, true, true, true, true, true, true, false, false, true, true, false, false, false, false, false, false, false, false, false, false, false, false] rfl rfl (take_ofW HT_.out HW_.out (by kernel_rfl)) (fun _ _ _ h => h) (Or.inl ⟨by rfl, ?_⟩) hHeld ?_ ?_
      rotate_left
      ·rintro w' ⟨s0, s1, s2, s3, s4, s5, s6, s7, s8, s9, s10, s11⟩
       go_simp
       with_reducible rfl
      rotate_left
      ·exact pt_
      refine take_ (i := 14) (N := some 44) (v := ?_) (a' := ?_) #[true, true, true, true, true, true, true, true, true, true, true, true, true, true, true, false, true, true, false, false, false, false, false, false, false, false, false, false, false, false] rfl rfl (take_ofW HT_.out HW_.out (by kernel_rfl)) (fun _ _ _ h => h) (Or.inl ⟨by rfl, ?_⟩) hHeld ?_ ?_
      rotate_left
      ·rintro w' ⟨s0, s1, s2, s3, s4, s5, s6, s7, s8, s9, s10, s11⟩
       go_simp
       with_reducible rfl
      rotate_left
      ·exact pt_
      refine one_ (i := 15) (N := some 45) #[true, true, true, true, true, true, true, true, true, true, true, true, true, true, true, true, true, true, false, false, false, false, false, false, false, false, false, false, false, false] rfl rfl (one_of HT_.out (by kernel_rfl)) (by decide) (fun K hK => ?_)
      refine gs_ Tryd.func17 #[.agg #[.int .i64 a1_0, .bool a1_1, .int .u64 a1_2, .int .i64 a1_3], .agg #[.int .i64 a0_0, .bool a0_1, .int .u64 a0_2, .int .i64 a0_3]] ?_
      with_reducible refine (num_Cmp.calls a1_0 a1_1 a1_2 a1_3 a0_0 a0_1 a0_2 a0_3 t754 _ A55.out).mono ?_
      rintro e w70 ⟨rfl, hb⟩
      refine ⟨_, rfl, ?_⟩
      replace HO739 := Aside0.mk (Kd.R_below (kr_ HO739.out) hb)
      replace HO747 := Aside0.mk (Kd.R_below (kr_ HO747.out) hb)
      replace BK731 := kq_ BK731 hb
      replace BK732 := kq_ BK732 hb
      replace BK733 := kq_ BK733 hb
      replace BK744 := kq_ BK744 hb
      replace BK752 := kq_ BK752 hb
      replace HB := bq_ HB hb
      (try clear hb)
      (try clear hb2)
      (try clear hk)
      (try clear hi)
      refine hK.out _ _ ⟨(blk_cell BK731.out 0).trans rfl, (blk_cell BK731.out 1).trans rfl, (blk_cell BK731.out 2).trans rfl, (blk_cell BK731.out 3).trans rfl, (blk_cell BK733.out 0).trans rfl, (blk_cell BK733.out 1).trans rfl, (blk_cell BK733.out 2).trans rfl, (blk_cell BK733.out 3).trans rfl, (blk_cell BK732.out 0).trans rfl, (blk_cell BK732.out 1).trans rfl, (blk_cell BK732.out 2).trans rfl, (blk_cell BK732.out 3).trans rfl⟩ (fun hHeld => ?_)
      clear hK K
      refine norm_ (a' := ?_) ?_ ?_
      rotate_left
      ·show Act.put _ (some 45) _ = _
       exact pt_
      refine pure_ (i := 18) (N := some 48) (v := ?_) (a' := ?_) #[true, true, true, true, true, true, true, true, true, true, true, true, true, true, true, true, true, true, true, false, false, false, false, false, false, false, false, false, false, false] rfl rfl (any_of HT_.out (by kernel_rfl)) (fun _ _ _ h => h) (Or.inl ⟨by rfl, ?_⟩) ?_ ?_
      rotate_left
      ·intro w'
       go_simp
       with_reducible rfl
      rotate_left
      ·exact pt_
      refine pure_ (i := 19) (N := some 49) (v := ?_) (a' := ?_) #[true, true, true, true, true, true, true, true, true, true, true, true, true, true, true, true, true, true, true, true, false, false, false, false, false, false, false, false, false, false] rfl rfl (any_of HT_.out (by kernel_rfl)) (fun _ _ _ h => h) (Or.inl ⟨by rfl, ?_⟩) ?_ ?_
      rotate_left
      ·intro w'
       go_simp
       with_reducible rfl
      rotate_left
      ·exact pt_
      refine pure_ (i := 20) (N := some 50) (v := ?_) (a' := ?_) #[true, true, true, true, true, true, true, true, true, true, true, true, true, true, true, true, true, true, true, true, true, false, false, false, false, false, false, false, false, false] rfl rfl (any_of HT_.out (by kernel_rfl)) (fun _ _ _ h => h) (Or.inl ⟨by rfl, ?_⟩) ?_ ?_
      rotate_left
      ·intro w'
       go_simp
       with_reducible rfl
      rotate_left
      ·exact pt_
      refine pure_ (i := 21) (N := some 51) (v := undef) (a' := ?_) #[true, true, true, true, true, true, true, true, true, true, true, true, true, true, true, true, true, true, true, true, true, true, false, false, false, false, false, false, false, false] rfl rfl (any_of HT_.out (by kernel_rfl)) (fun _ _ _ h => h) (Or.inr ⟨by rfl, rfl⟩) ?_ ?_
      rotate_left
      ·exact pt_
      refine pure_ (i := 22) (N := some 52) (v := undef) (a' := ?_) #[true, true, true, true, true, true, true, true, true, true, true, true, true, true, true, true, true, true, true, true, true, true, true, false, false, false, false, false, false, false] rfl rfl (any_of HT_.out (by kernel_rfl)) (fun _ _ _ h => h) (Or.inr ⟨by rfl, rfl⟩) ?_ ?_
      rotate_left
      ·exact pt_
      refine pure_ (i := 23) (N := some 53) (v := undef) (a' := ?_) #[true, true, true, true, true, true, true, true, true, true, true, true, true, true, true, true, true, true, true, true, true, true, true, true, false, false, false, false, false, false] rfl rfl (any_of HT_.out (by kernel_rfl)) (fun _ _ _ h => h) (Or.inr ⟨by rfl, rfl⟩) ?_ ?_
      rotate_left
      ·exact pt_
      refine pure_ (i := 24) (N := some 54) (v := undef) (a' := ?_) #[true, true, true, true, true, true, true, true, true, true, true, true, true, true, true, true, true, true, true, true, true, true, true, true, true, false, false, false, false, false] rfl rfl (any_of HT_.out (by kernel_rfl)) (fun _ _ _ h => h) (Or.inr ⟨by rfl, rfl⟩) ?_ ?_
      rotate_left
      ·exact pt_
      refine pure_ (i := 25) (N := some 55) (v := undef) (a' := ?_) #[true, true, true, true, true, true, true, true, true, true, true, true, true, true, true, true, true, true, true, true, true, true, true, true, true, true, false, false, false, false] rfl rfl (any_of HT_.out (by kernel_rfl)) (fun _ _ _ h => h) (Or.inr ⟨by rfl, rfl⟩) ?_ ?_
      rotate_left
      ·exact pt_
      refine pure_ (i := 26) (N := some 56) (v := undef) (a' := ?_) #[true, true, true, true, true, true, true, true, true, true, true, true, true, true, true, true, true, true, true, true, true, true, true, true, true, true, true, false, false, false] rfl rfl (any_of HT_.out (by kernel_rfl)) (fun _ _ _ h => h) (Or.inr ⟨by rfl, rfl⟩) ?_ ?_
      rotate_left
      ·exact pt_
      refine pure_ (i := 27) (N := some 57) (v := undef) (a' := ?_) #[true, true, true, true, true, true, true, true, true, true, true, true, true, true, true, true, true, true, true, true, true, true, true, true, true, true, true, true, false, false] rfl rfl (any_of HT_.out (by kernel_rfl)) (fun _ _ _ h => h) (Or.inr ⟨by rfl, rfl⟩) ?_ ?_
      rotate_left
      ·exact pt_
      refine pure_ (i := 28) (N := some 58) (v := undef) (a' := ?_) #[true, true, true, true, true, true, true, true, true, true, true, true, true, true, true, true, true, true, true, true, true, true, true, true, true, true, true, true, true, false] rfl rfl (any_of HT_.out (by kernel_rfl)) (fun _ _ _ h => h) (Or.inr ⟨by rfl, rfl⟩) ?_ ?_
      rotate_left
      ·exact pt_
      refine pure_ (i := 29) (N := some 59) (v := ?_) (a' := ?_) #[true, true, true, true, true, true, true, true, true, true, true, true, true, true, true, true, true, true, true, true, true, true, true, true, true, true, true, true, true, true] rfl rfl (any_of HT_.out (by kernel_rfl)) (fun _ _ _ h => h) (Or.inl ⟨by rfl, ?_⟩) ?_ ?_
      rotate_left
      ·intro w'
       go_simp
       with_reducible rfl
      rotate_left
      ·exact pt_
      refine done_ (done_of HT_.out (by kernel_rfl)) ?_
      try go_wp2
      go_meet
      case rel => exact ⟨_, (true), (by first | rfl | (simp; done) | (simp [*]; done)), H', ⟨by first | omega | exact Nat.le_refl _⟩, ⟨kb_ BK731.out⟩, ⟨kb_ BK732.out⟩, ⟨kb_ BK733.out⟩, ⟨kb_ BK744.out⟩, ⟨kb_ BK752.out⟩, ⟨bw_ HB.out⟩⟩
   ·rw [if_neg c49] at H
    have c49b0 : decide (t736 ≤ 0) = false := decide_eq_false c49
    clear c49
    replace H := Option.bind_eq_some_iff.mp H
    obtain ⟨t764, A710, H⟩ := H
    (try dsimp only at H)
    have A71 := Aside0.mk A710
    clear A710
    by_cases c72 : t764 = (wrap64 (-t735))
    ·rw [if_pos c72] at H
     have c72b0 : (t764 == (wrap64 (-t735))) = true := beq_iff_eq.mpr c72
     have c72b1 : (t764 != (wrap64 (-t735))) = false := bne_eq_false_iff_eq.mpr c72
     clear c72
     replace H := Option.bind_eq_some_iff.mp H
     obtain ⟨⟨t765, t766, t767, t768⟩, A730, H⟩ := H
     (try dsimp only at H)
     have A73 := Aside0.mk A730
     clear A730
     replace H := Option.bind_eq_some_iff.mp H
     obtain ⟨⟨t769, t770, t771, t772⟩, A740, H⟩ := H
     (try dsimp only at H)
     have A74 := Aside0.mk A740
     clear A740
     replace H := Option.bind_eq_some_iff.mp H
     obtain ⟨t773, A750, H⟩ := H
     (try dsimp only at H)
     have A75 := Aside0.mk A750
     clear A750
     have H' := Aside0.mk H
     clear H
     try go_wp2
     have n0_ : Aside0 (Kd.R k30 30 ((((w42.setCell ⟨gb752, 0, none⟩ (.int .i64 t748)).setCell ⟨gb752, 1, none⟩ (.bool t749)).setCell ⟨gb752, 2, none⟩ (.int .u64 t750)).setCell ⟨gb752, 3, none⟩ (.int .i64 t751)) w.heap.size (fun k_ => some k_ ≠ (.slice Ao40 y745.length co40 : Value).ownBlock ∧ k_ ≠ gb731 ∧ k_ ≠ gb732 ∧ k_ ≠ gb733 ∧ k_ ≠ gb744 ∧ k_ ≠ gb752) (.slice Ao28 y737.length co28) y737) := ⟨by (with_reducible repeat (first | apply Kd.R_alloc | apply Kd.R_drewN | apply Kd.R_drew)); exact Kd.R_mono (Kd.R_far (p := ⟨gb752, 3, none⟩) (Kd.R_far (p := ⟨gb752, 2, none⟩) (Kd.R_far (p := ⟨gb752, 1, none⟩) (Kd.R_far (p := ⟨gb752, 0, none⟩) (Kd.R_mono HO739.out (fun k_ hk => (⟨hk, hk.2⟩ : _ ∧ k_ ≠ gb752))) (fun _ hk => hk.2) (.int .i64 t748)) (fun _ hk => hk.2) (.bool t749)) (fun _ hk => hk.2) (.int .u64 t750)) (fun _ hk => hk.2) (.int .i64 t751)) (fun _ hk => ⟨hk.1.1.2, ⟨hk.1.1.1.1.1.1.2, ⟨hk.1.1.1.1.1.2, ⟨hk.1.1.1.1.2, ⟨hk.1.1.1.2, hk.1.2⟩⟩⟩⟩⟩)⟩
     have n1_ : Aside0 (Kd.R k30 30 ((((w42.setCell ⟨gb752, 0, none⟩ (.int .i64 t748)).setCell ⟨gb752, 1, none⟩ (.bool t749)).setCell ⟨gb752, 2, none⟩ (.int .u64 t750)).setCell ⟨gb752, 3, none⟩ (.int .i64 t751)) w.heap.size (fun k_ => some k_ ≠ (.slice Ao28 y737.length co28 : Value).ownBlock ∧ k_ ≠ gb731 ∧ k_ ≠ gb732 ∧ k_ ≠ gb733 ∧ k_ ≠ gb744 ∧ k_ ≠ gb752) (.slice Ao40 y745.length co40) y745) := ⟨by (with_reducible repeat (first | apply Kd.R_alloc | apply Kd.R_drewN | apply Kd.R_drew)); exact Kd.R_mono (Kd.R_far (p := ⟨gb752, 3, none⟩) (Kd.R_far (p := ⟨gb752, 2, none⟩) (Kd.R_far (p := ⟨gb752, 1, none⟩) (Kd.R_far (p := ⟨gb752, 0, none⟩) (Kd.R_mono HO747.out (fun k_ hk => (⟨hk, hk.2⟩ : _ ∧ k_ ≠ gb752))) (fun _ hk => hk.2) (.int .i64 t748)) (fun _ hk => hk.2) (.bool t749)) (fun _ hk => hk.2) (.int .u64 t750)) (fun _ hk => hk.2) (.int .i64 t751)) (fun _ hk => ⟨hk.1.1.1.1.1.1.2, ⟨hk.1.1.1.1.1.2, ⟨hk.1.1.1.1.2, ⟨hk.1.1.1.2, ⟨hk.1.1.2, hk.1.2⟩⟩⟩⟩⟩)⟩
     have n2_ : Aside0 (((((w42.setCell ⟨gb752, 0, none⟩ (.int .i64 t748)).setCell ⟨gb752, 1, none⟩ (.bool t749)).setCell ⟨gb752, 2, none⟩ (.int .u64 t750)).setCell ⟨gb752, 3, none⟩ (.int .i64 t751)).heap[gb731]? = some (.cells #[.int .i64 a0_0, .bool a0_1, .int .u64 a0_2, .int .i64 a0_3] 30 (0, 0))) := ⟨by refine kb_ ?_; refine bf_ NB731_752 ?_; refine bf_ NB731_752 ?_; refine bf_ NB731_752 ?_; refine bf_ NB731_752 ?_; exact BK731.out⟩
     have n3_ : Aside0 (((((w42.setCell ⟨gb752, 0, none⟩ (.int .i64 t748)).setCell ⟨gb752, 1, none⟩ (.bool t749)).setCell ⟨gb752, 2, none⟩ (.int .u64 t750)).setCell ⟨gb752, 3, none⟩ (.int .i64 t751)).heap[gb732]? = some (.cells #[.int .i64 a1_0, .bool a1_1, .int .u64 a1_2, .int .i64 a1_3] 30 (0, 0))) := ⟨by refine kb_ ?_; refine bf_ NB732_752 ?_; refine bf_ NB732_752 ?_; refine bf_ NB732_752 ?_; refine bf_ NB732_752 ?_; exact BK732.out⟩
     have n4_ : Aside0 (((((w42.setCell ⟨gb752, 0, none⟩ (.int .i64 t748)).setCell ⟨gb752, 1, none⟩ (.bool t749)).setCell ⟨gb752, 2, none⟩ (.int .u64 t750)).setCell ⟨gb752, 3, none⟩ (.int .i64 t751)).heap[gb733]? = some (.cells #[.int .i64 a2_0, .bool a2_1, .int .u64 a2_2, .int .i64 a2_3] 30 (0, 0))) := ⟨by refine kb_ ?_; refine bf_ NB733_752 ?_; refine bf_ NB733_752 ?_; refine bf_ NB733_752 ?_; refine bf_ NB733_752 ?_; exact BK733.out⟩
     have n5_ : Aside0 (((((w42.setCell ⟨gb752, 0, none⟩ (.int .i64 t748)).setCell ⟨gb752, 1, none⟩ (.bool t749)).setCell ⟨gb752, 2, none⟩ (.int .u64 t750)).setCell ⟨gb752, 3, none⟩ (.int .i64 t751)).heap[gb744]? = some (.cells #[.int .i64 t740, .bool t741, .int .u64 t742, .int .i64 t743] 30 (0, 0))) := ⟨by refine kb_ ?_; refine bf_ NB744_752 ?_; refine bf_ NB744_752 ?_; refine bf_ NB744_752 ?_; refine bf_ NB744_752 ?_; exact BK744.out⟩
     have n6_ : Aside0 (((((w42.setCell ⟨gb752, 0, none⟩ (.int .i64 t748)).setCell ⟨gb752, 1, none⟩ (.bool t749)).setCell ⟨gb752, 2, none⟩ (.int .u64 t750)).setCell ⟨gb752, 3, none⟩ (.int .i64 t751)).heap[gb752]? = some (.cells #[.int .i64 t748, .bool t749, .int .u64 t750, .int .i64 t751] 30 (0, 0))) := ⟨by refine kb_ ?_; refine bp_ #[.int .i64 t748, .bool t749, .int .u64 t750, .int .i64 0] 3 ?_; refine bp_ #[.int .i64 t748, .bool t749, .int .u64 0, .int .i64 0] 2 ?_; refine bp_ #[.int .i64 t748, .bool false, .int .u64 0, .int .i64 0] 1 ?_; refine bp_ #[.int .i64 0, .bool false, .int .u64 0, .int .i64 0] 0 ?_; exact BK752.out⟩
     have n7_ : Aside0 (Below w.heap.size w ((((w42.setCell ⟨gb752, 0, none⟩ (.int .i64 t748)).setCell ⟨gb752, 1, none⟩ (.bool t749)).setCell ⟨gb752, 2, none⟩ (.int .u64 t750)).setCell ⟨gb752, 3, none⟩ (.int .i64 t751))) := ⟨bw_ HB.out⟩
     (try clear HO739)
     (try clear HO747)
     (try clear BK731)
     (try clear BK732)
     (try clear BK733)
     (try clear BK744)
     (try clear BK752)
     (try clear HB)
     generalize ((((w42.setCell ⟨gb752, 0, none⟩ (.int .i64 t748)).setCell ⟨gb752, 1, none⟩ (.bool t749)).setCell ⟨gb752, 2, none⟩ (.int .u64 t750)).setCell ⟨gb752, 3, none⟩ (.int .i64 t751)) = w76 at n0_ n1_ n2_ n3_ n4_ n5_ n6_ n7_ ⊢
     have HO739 := n0_
     have HO747 := n1_
     have BK731 := n2_
     have BK732 := n3_
     have BK733 := n4_
     have BK744 := n5_
     have BK752 := n6_
     have HB := n7_
     clear n0_ n1_ n2_ n3_ n4_ n5_ n6_ n7_
     replace HO739 := Aside0.mk (Kd.R_drew HO739.out)
     replace HO747 := Aside0.mk (Kd.R_drew HO747.out)
     replace BK731 := Aside0.mk (blk_drew BK731.out)
     replace BK732 := Aside0.mk (blk_drew BK732.out)
     replace BK733 := Aside0.mk (blk_drew BK733.out)
     replace BK744 := Aside0.mk (blk_drew BK744.out)
     replace BK752 := Aside0.mk (blk_drew BK752.out)
     replace HB := Aside0.mk (below_drew1 HB.out)
     refine start_ (n := 30) (S := fun w' => w'.cell? ⟨gb732, 0, none⟩ = some (.int .i64 a1_0) ∧ w'.cell? ⟨gb732, 1, none⟩ = some (.bool a1_1) ∧ w'.cell? ⟨gb732, 2, none⟩ = some (.int .u64 a1_2) ∧ w'.cell? ⟨gb732, 3, none⟩ = some (.int .i64 a1_3) ∧ w'.cell? ⟨gb731, 0, none⟩ = some (.int .i64 a0_0) ∧ w'.cell? ⟨gb731, 1, none⟩ = some (.bool a0_1) ∧ w'.cell? ⟨gb731, 2, none⟩ = some (.int .u64 a0_2) ∧ w'.cell? ⟨gb731, 3, none⟩ = some (.int .i64 a0_3)) (ds := []) #[false, false, false, false, false, false, false, false, false, false, false, false, false, false, false, false, false, false, false, false, false, false, false, false, false, false, false, false, false, false] (by kernel_rfl) rfl rfl ⟨(blk_cell BK732.out 0).trans rfl, (blk_cell BK732.out 1).trans rfl, (blk_cell BK732.out 2).trans rfl, (blk_cell BK732.out 3).trans rfl, (blk_cell BK731.out 0).trans rfl, (blk_cell BK731.out 1).trans rfl, (blk_cell BK731.out 2).trans rfl, (blk_cell BK731.out 3).trans rfl⟩ (fun hHeld => ?_); refine with_tabW peloruslaw05_NumOrder.tab6 peloruslaw05_NumOrder.bits6 (fun HT_ HW_ => ?_)
     generalize w76.drew = w77 at HO739 HO747 BK731 BK732 BK733 BK744 BK752 HB hHeld ⊢
     refine pure_ (i := 0) (N := some 30) (v := ?_) (a' := ?_) #[true, false, false, false, false, false, false, false, false, false, false, false, false, false, false, false, false, false, false, false, false, false, false, false, false, false, false, false, false, false] rfl rfl (any_of HT_.out (by kernel_rfl)) (fun _ _ _ h => h) (Or.inl ⟨by rfl, ?_⟩) ?_ ?_
     rotate_left
     ·intro w'
      go_simp
      with_reducible rfl
     rotate_left
     ·exact pt_
     refine pure_ (i := 1) (N := some 31) (v := ?_) (a' := ?_) #[true, true, false, false, false, false, false, false, false, false, false, false, false, false, false, false, false, false, false, false, false, false, false, false, false, false, false, false, false, false] rfl rfl (any_of HT_.out (by kernel_rfl)) (fun _ _ _ h => h) (Or.inl ⟨by rfl, ?_⟩) ?_ ?_
     rotate_left
     ·intro w'
      go_simp
      with_reducible rfl
     rotate_left
     ·exact pt_
     refine pure_ (i := 2) (N := some 32) (v := ?_) (a' := ?_) #[true, true, true, false, false, false, false, false, false, false, false, false, false, false, false, false, false, false, false, false, false, false, false, false, false, false, false, false, false, false] rfl rfl (any_of HT_.out (by kernel_rfl)) (fun _ _ _ h => h) (Or.inl ⟨by rfl, ?_⟩) ?_ ?_
     rotate_left
     ·intro w'
      go_simp
      with_reducible rfl
     rotate_left
     ·exact pt_
     refine pure_ (i := 3) (N := some 33) (v := ?_) (a' := ?_) #[true, true, true, true, false, false, false, false, false, false, false, false, false, false, false, false, false, false, false, false, false, false, false, false, false, false, false, false, false, false] rfl rfl (any_of HT_.out (by kernel_rfl)) (fun _ _ _ h => h) (Or.inl ⟨by rfl, ?_⟩) ?_ ?_
     rotate_left
     ·intro w'
      go_simp
      with_reducible rfl
     rotate_left
     ·exact pt_
     refine pure_ (i := 4) (N := some 34) (v := ?_) (a' := ?_) #[true, true, true, true, true, false, false, false, false, false, false, false, false, false, false, false, false, false, false, false, false, false, false, false, false, false, false, false, false, false] rfl rfl (any_of HT_.out (by kernel_rfl)) (fun _ _ _ h => h) (Or.inl ⟨by rfl, ?_⟩) ?_ ?_
     rotate_left
     ·intro w'
      go_simp
      with_reducible rfl
     rotate_left
     ·exact pt_
     refine pure_ (i := 5) (N := some 35) (v := ?_) (a' := ?_) #[true, true, true, true, true, true, false, false, false, false, false, false, false, false, false, false, false, false, false, false, false, false, false, false, false, false, false, false, false, false] rfl rfl (any_of HT_.out (by kernel_rfl)) (fun _ _ _ h => h) (Or.inl ⟨by rfl, ?_⟩) ?_ ?_
     rotate_left
     ·intro w'
      go_simp
      with_reducible rfl
     rotate_left
     ·exact pt_
     refine pure_ (i := 6) (N := some 36) (v := ?_) (a' := ?_) #[true, true, true, true, true, true, true, false, false, false, false, false, false, false, false, false, false, false, false, false, false, false, false, false, false, false, false, false, false, false] rfl rfl (any_of HT_.out (by kernel_rfl)) (fun _ _ _ h => h) (Or.inl ⟨by rfl, ?_⟩) ?_ ?_
     rotate_left
     ·intro w'
      go_simp
      with_reducible rfl
     rotate_left
     ·exact pt_
     refine pure_ (i := 7) (N := some 37) (v := undef) (a' := ?_) #[true, true, true, true, true, true, true, true, false, false, false, false, false, false, false, false, false, false, false, false, false, false, false, false, false, false, false, false, false, false] rfl rfl (any_of HT_.out (by kernel_rfl)) (fun _ _ _ h => h) (Or.inr ⟨by rfl, rfl⟩) ?_ ?_
     rotate_left
     ·exact pt_
     refine pure_ (i := 8) (N := some 38) (v := undef) (a' := ?_) #[true, true, true, true, true, true, true, true, true, false, false, false, false, false, false, false, false, false, false, false, false, false, false, false, false, false, false, false, false, false] rfl rfl (any_of HT_.out (by kernel_rfl)) (fun _ _ _ h => h) (Or.inr ⟨by rfl, rfl⟩) ?_ ?_
     rotate_left
     ·exact pt_
     refine pure_ (i := 9) (N := some 39) (v := undef) (a' := ?_) #[true, true, true, true, true, true, true, true, true, true, false, false, false, false, false, false, false, false, false, false, false, false, false, false, false, false, false, false, false, false] rfl rfl (any_of HT_.out (by kernel_rfl)) (fun _ _ _ h => h) (Or.inr ⟨by rfl, rfl⟩) ?_ ?_
     rotate_left
     ·exact pt_
     refine pure_ (i := 10) (N := some 40) (v := undef) (a' := ?_) #[true, true, true, true, true, true, true, true, true, true, true, false, false, false, false, false, false, false, false, false, false, false, false, false, false, false, false, false, false, false] rfl rfl (any_of HT_.out (by kernel_rfl)) (fun _ _ _ h => h) (Or.inr ⟨by rfl, rfl⟩) ?_ ?_
     rotate_left
     ·exact pt_
     refine pure_ (i := 11) (N := some 41) (v := ?_) (a' := ?_) #[true, true, true, true, true, true, true, true, true, true, true, true, false, false, false, false, false, false, false, false, false, false, false, false, false, false, false, false, false, false] rfl rfl (any_of HT_.out (by kernel_rfl)) (fun _ _ _ h => h) (Or.inl ⟨by rfl, ?_⟩) ?_ ?_
     rotate_left
     ·intro w'
      go_simp
      with_reducible rfl
     rotate_left
     ·exact pt_
     refine pure_ (i := 12) (N := some 42) (v := ?_) (a' := ?_) #[true, true, true, true, true, true, true, true, true, true, true, true, true, false, false, false, false, false, false, false, false, false, false, false, false, false, false, false, false, false] rfl rfl (any_of HT_.out (by kernel_rfl)) (fun _ _ _ h => h) (Or.inl ⟨by rfl, ?_⟩) ?_ ?_
     rotate_left
     ·intro w'
      go_simp
      with_reducible rfl
     rotate_left
     ·exact pt_
     refine pure_ (i := 16) (N := some 46) (v := ?_) (a' := ?_) #[true, true, true, true, true, true, true, true, true, true, true, true, true, false, false, false, true, false, false, false, false, false, false, false, false, false, false, false, false, false] rfl rfl (any_of HT_.out (by kernel_rfl)) (fun _ _ _ h => h) (Or.inl ⟨by rfl, ?_⟩) ?_ ?_
     rotate_left
     ·intro w'
      go_simp
      with_reducible rfl
     rotate_left
     ·exact pt_
     refine pure_ (i := 17) (N := some 47) (v := ?_) (a' := ?_) #[true, true, true, true, true, true, true, true, true, true, true, true, true, false, false, false, true, true, false, false, false, false, false, false, false, false, false, false, false, false] rfl rfl (any_of HT_.out (by kernel_rfl)) (fun _ _ _ h => h) (Or.inl ⟨by rfl, ?_⟩) ?_ ?_
     rotate_left
     ·intro w'
      go_simp
      with_reducible rfl
     rotate_left
     ·exact pt_
     refine take_ (i := 13) (N := some 43) (v := ?_) (a' := ?_) #[true, true, true, true, true, true, true, true, true, true, true, true, true, true, false, false, true, true, false, false, false, false, false, false, false, false, false, false, false, false] rfl rfl (take_ofW HT_.out HW_.out (by kernel_rfl)) (fun _ _ _ h => h) (Or.inl ⟨by rfl, ?_⟩) hHeld ?_ ?_
     rotate_left
     ·rintro w' ⟨s0, s1, s2, s3, s4, s5, s6, s7⟩
      go_simp
      with_reducible rfl
     rotate_left
     ·exact pt_
     refine take_ (i := 14) (N := some 44) (v := ?_) (a' := ?_) #[true, true, true, true, true, true, true, true, true, true, true, true, true, true, true, false, true, true, false, false, false, false, false, false, false, false, false, false, false, false] rfl rfl (take_ofW HT_.out HW_.out (by kernel_rfl)) (fun _ _ _ h => h) (Or.inl ⟨by rfl, ?_⟩) hHeld ?_ ?_
     rotate_left
     ·rintro w' ⟨s0, s1, s2, s3, s4, s5, s6, s7⟩
      go_simp
      with_reducible rfl
     rotate_left
     ·exact pt_
     refine one_ (i := 15) (N := some 45) #[true, true, true, true, true, true, true, true, true, true, true, true, true, true, true, true, true, true, false, false, false, false, false, false, false, false, false, false, false, false] rfl rfl (one_of HT_.out (by kernel_rfl)) (by decide) (fun K hK => ?_)
     refine gs_ Tryd.func17 #[.agg #[.int .i64 a1_0, .bool a1_1, .int .u64 a1_2, .int .i64 a1_3], .agg #[.int .i64 a0_0, .bool a0_1, .int .u64 a0_2, .int .i64 a0_3]] ?_
     with_reducible refine (num_Cmp.calls a1_0 a1_1 a1_2 a1_3 a0_0 a0_1 a0_2 a0_3 t764 _ A71.out).mono ?_
     rintro e w78 ⟨rfl, hb⟩
     refine ⟨_, rfl, ?_⟩
     replace HO739 := Aside0.mk (Kd.R_below (kr_ HO739.out) hb)
     replace HO747 := Aside0.mk (Kd.R_below (kr_ HO747.out) hb)
     replace BK731 := kq_ BK731 hb
     replace BK732 := kq_ BK732 hb
     replace BK733 := kq_ BK733 hb
     replace BK744 := kq_ BK744 hb
     replace BK752 := kq_ BK752 hb
     replace HB := bq_ HB hb
     (try clear hb)
     (try clear hb2)
     (try clear hk)
     (try clear hi)
     refine hK.out _ _ ⟨(blk_cell BK732.out 0).trans rfl, (blk_cell BK732.out 1).trans rfl, (blk_cell BK732.out 2).trans rfl, (blk_cell BK732.out 3).trans rfl, (blk_cell BK731.out 0).trans rfl, (blk_cell BK731.out 1).trans rfl, (blk_cell BK731.out 2).trans rfl, (blk_cell BK731.out 3).trans rfl⟩ (fun hHeld => ?_)
     clear hK K
     refine norm_ (a' := ?_) ?_ ?_
     rotate_left
     ·show Act.put _ (some 45) _ = _
      exact pt_
     refine pure_ (i := 18) (N := some 48) (v := ?_) (a' := ?_) #[true, true, true, true, true, true, true, true, true, true, true, true, true, true, true, true, true, true, true, false, false, false, false, false, false, false, false, false, false, false] rfl rfl (any_of HT_.out (by kernel_rfl)) (fun _ _ _ h => h) (Or.inl ⟨by rfl, ?_⟩) ?_ ?_
     rotate_left
     ·intro w'
      go_simp
      with_reducible rfl
     rotate_left
     ·exact pt_
     refine pure_ (i := 19) (N := some 49) (v := ?_) (a' := ?_) #[true, true, true, true, true, true, true, true, true, true, true, true, true, true, true, true, true, true, true, true, false, false, false, false, false, false, false, false, false, false] rfl rfl (any_of HT_.out (by kernel_rfl)) (fun _ _ _ h => h) (Or.inl ⟨by rfl, ?_⟩) ?_ ?_
     rotate_left
     ·intro w'
      go_simp
      with_reducible rfl
     rotate_left
     ·exact pt_
     refine pure_ (i := 20) (N := some 50) (v := ?_) (a' := ?_) #[true, true, true, true, true, true, true, true, true, true, true, true, true, true, true, true, true, true, true, true, true, false, false, false, false, false, false, false, false, false] rfl rfl (any_of HT_.out (by kernel_rfl)) (fun _ _ _ h => h) (Or.inl ⟨by rfl, ?_⟩) ?_ ?_
     rotate_left
     ·intro w'
      go_simp
      with_reducible rfl
     rotate_left
     ·exact pt_
     refine pure_ (i := 26) (N := some 56) (v := ?_) (a' := ?_) #[true, true, true, true, true, true, true, true, true, true, true, true, true, true, true, true, true, true, true, true, true, false, false, false, false, false, true, false, false, false] rfl rfl (any_of HT_.out (by kernel_rfl)) (fun _ _ _ h => h) (Or.inl ⟨by rfl, ?_⟩) ?_ ?_
     rotate_left
     ·intro w'
      go_simp
      with_reducible rfl
     rotate_left
     ·exact pt_
     refine pure_ (i := 27) (N := some 57) (v := ?_) (a' := ?_) #[true, true, true, true, true, true, true, true, true, true, true, true, true, true, true, true, true, true, true, true, true, false, false, false, false, false, true, true, false, false] rfl rfl (any_of HT_.out (by kernel_rfl)) (fun _ _ _ h => h) (Or.inl ⟨by rfl, ?_⟩) ?_ ?_
     rotate_left
     ·intro w'
      go_simp
      with_reducible rfl
     rotate_left
     ·exact pt_
     refine take_ (i := 21) (N := some 51) (v := ?_) (a' := ?_) #[true, true, true, true, true, true, true, true, true, true, true, true, true, true, true, true, true, true, true, true, true, true, false, false, false, false, true, true, false, false] rfl rfl (take_ofW HT_.out HW_.out (by kernel_rfl)) (fun _ _ _ h => h) (Or.inl ⟨by rfl, ?_⟩) hHeld ?_ ?_
     rotate_left
     ·rintro w' ⟨s0, s1, s2, s3, s4, s5, s6, s7⟩
      go_simp
      with_reducible rfl
     rotate_left
     ·exact pt_
     refine take_ (i := 23) (N := some 53) (v := ?_) (a' := ?_) #[true, true, true, true, true, true, true, true, true, true, true, true, true, true, true, true, true, true, true, true, true, true, false, true, false, false, true, true, false, false] rfl rfl (take_ofW HT_.out HW_.out (by kernel_rfl)) (fun _ _ _ h => h) (Or.inl ⟨by rfl, ?_⟩) hHeld ?_ ?_
     rotate_left
     ·rintro w' ⟨s0, s1, s2, s3, s4, s5, s6, s7⟩
      go_simp
      with_reducible rfl
     rotate_left
     ·exact pt_
     refine one_ (i := 22) (N := some 52) #[true, true, true, true, true, true, true, true, true, true, true, true, true, true, true, true, true, true, true, true, true, true, true, true, false, false, true, true, false, false] rfl rfl (one_of HT_.out (by kernel_rfl)) (by decide) (fun K hK => ?_)
     refine gs_ Tryd.func16 #[.agg #[.int .i64 a0_0, .bool a0_1, .int .u64 a0_2, .int .i64 a0_3]] ?_
     with_reducible refine (num_Neg.calls a0_0 a0_1 a0_2 a0_3 t765 t766 t767 t768 _ A73.out).mono ?_
     rintro e w79 ⟨rfl, hb⟩
     refine ⟨_, rfl, ?_⟩
     replace HO739 := Aside0.mk (Kd.R_below (kr_ HO739.out) hb)
     replace HO747 := Aside0.mk (Kd.R_below (kr_ HO747.out) hb)
     replace BK731 := kq_ BK731 hb
     replace BK732 := kq_ BK732 hb
     replace BK733 := kq_ BK733 hb
     replace BK744 := kq_ BK744 hb
     replace BK752 := kq_ BK752 hb
     replace HB := bq_ HB hb
     (try clear hb)
     (try clear hb2)
     (try clear hk)
     (try clear hi)
     refine hK.out _ _ ⟨(blk_cell BK732.out 0).trans rfl, (blk_cell BK732.out 1).trans rfl, (blk_cell BK732.out 2).trans rfl, (blk_cell BK732.out 3).trans rfl, (blk_cell BK731.out 0).trans rfl, (blk_cell BK731.out 1).trans rfl, (blk_cell BK731.out 2).trans rfl, (blk_cell BK731.out 3).trans rfl⟩ (fun hHeld => ?_)
     clear hK K
     refine norm_ (a' := ?_) ?_ ?_
     rotate_left
     ·show Act.put _ (some 52) _ = _
      exact pt_
     refine one_ (i := 24) (N := some 54) #[true, true, true, true, true, true, true, true, true, true, true, true, true, true, true, true, true, true, true, true, true, true, true, true, true, false, true, true, false, false] rfl rfl (one_of HT_.out (by kernel_rfl)) (by decide) (fun K hK => ?_)
     refine gs_ Tryd.func16 #[.agg #[.int .i64 a1_0, .bool a1_1, .int .u64 a1_2, .int .i64 a1_3]] ?_
     with_reducible refine (num_Neg.calls a1_0 a1_1 a1_2 a1_3 t769 t770 t771 t772 _ A74.out).mono ?_
     rintro e w80 ⟨rfl, hb⟩
     refine ⟨_, rfl, ?_⟩
     replace HO739 := Aside0.mk (Kd.R_below (kr_ HO739.out) hb)
     replace HO747 := Aside0.mk (Kd.R_below (kr_ HO747.out) hb)
     replace BK731 := kq_ BK731 hb
     replace BK732 := kq_ BK732 hb
     replace BK733 := kq_ BK733 hb
     replace BK744 := kq_ BK744 hb
     replace BK752 := kq_ BK752 hb
     replace HB := bq_ HB hb
     (try clear hb)
     (try clear hb2)
     (try clear hk)
     (try clear hi)
     refine hK.out _ _ ⟨(blk_cell BK732.out 0).trans rfl, (blk_cell BK732.out 1).trans rfl, (blk_cell BK732.out 2).trans rfl, (blk_cell BK732.out 3).trans rfl, (blk_cell BK731.out 0).trans rfl, (blk_cell BK731.out 1).trans rfl, (blk_cell BK731.out 2).trans rfl, (blk_cell BK731.out 3).trans rfl⟩ (fun hHeld => ?_)
     clear hK K
     refine norm_ (a' := ?_) ?_ ?_
     rotate_left
     ·show Act.put _ (some 54) _ = _
      exact pt_
     refine one_ (i := 25) (N := some 55) #[true, true, true, true, true, true, true, true, true, true, true, true, true, true, true, true, true, true, true, true, true, true, true, true, true, true, true, true, false, false] rfl rfl (one_of HT_.out (by kernel_rfl)) (by decide) (fun K hK => ?_)
     refine gs_ Tryd.func17 #[.agg #[.int .i64 t765, .bool t766, .int .u64 t767, .int .i64 t768], .agg #[.int .i64 t769, .bool t770, .int .u64 t771, .int .i64 t772]] ?_
     with_reducible refine (num_Cmp.calls t765 t766 t767 t768 t769 t770 t771 t772 t773 _ A75.out).mono ?_
     rintro e w81 ⟨rfl, hb⟩
     refine ⟨_, rfl, ?_⟩
     replace HO739 := Aside0.mk (Kd.R_below (kr_ HO739.out) hb)
     replace HO747 := Aside0.mk (Kd.R_below (kr_ HO747.out) hb)
     replace BK731 := kq_ BK731 hb
     replace BK732 := kq_ BK732 hb
     replace BK733 := kq_ BK733 hb
     replace BK744 := kq_ BK744 hb
     replace BK752 := kq_ BK752 hb
     replace HB := bq_ HB hb
     (try clear hb)
     (try clear hb2)
     (try clear hk)
     (try clear hi)
     refine hK.out _ _ ⟨(blk_cell BK732.out 0).trans rfl, (blk_cell BK732.out 1).trans rfl, (blk_cell BK732.out 2).trans rfl, (blk_cell BK732.out 3).trans rfl, (blk_cell BK731.out 0).trans rfl, (blk_cell BK731.out 1).trans rfl, (blk_cell BK731.out 2).trans rfl, (blk_cell BK731.out 3).trans rfl⟩ (fun hHeld => ?_)
     clear hK K
     refine norm_ (a' := ?_) ?_ ?_
     rotate_left
     ·show Act.put _ (some 55) _ = _
      exact pt_
     refine pure_ (i := 28) (N := some 58) (v := ?_) (a' := ?_) #[true, true, true, true, true, true, true, true, true, true, true, true, true, true, true, true, true, true, true, true, true, true, true, true, true, true, true, true, true, false] rfl rfl (any_of HT_.out (by kernel_rfl)) (fun _ _ _ h => h) (Or.inl ⟨by rfl, ?_⟩) ?_ ?_
     rotate_left
     ·intro w'
      go_simp
      with_reducible rfl
     rotate_left
     ·exact pt_
     refine pure_ (i := 29) (N := some 59) (v := ?_) (a' := ?_) #[true, true, true, true, true, true, true, true, true, true, true, true, true, true, true, true, true, true, true, true, true, true, true, true, true, true, true, true, true, true] rfl rfl (any_of HT_.out (by kernel_rfl)) (fun _ _ _ h => h) (Or.inl ⟨by rfl, ?_⟩) ?_ ?_
     rotate_left
     ·intro w'
      go_simp
      with_reducible rfl
     rotate_left
     ·exact pt_
     refine done_ (done_of HT_.out (by kernel_rfl)) ?_
     try go_wp2
     go_meet
     case rel => exact ⟨_, ((t773 != (wrap64 (-t735)))), (by first | rfl | (simp; done) | (simp [*]; done)), H', ⟨by first | omega | exact Nat.le_refl _⟩, ⟨kb_ BK731.out⟩, ⟨kb_ BK732.out⟩, ⟨kb_ BK733.out⟩, ⟨kb_ BK744.out⟩, ⟨kb_ BK752.out⟩, ⟨bw_ HB.out⟩⟩
    ·rw [if_neg c72] at H
     have c72b0 : (t764 == (wrap64 (-t735))) = false := beq_eq_false_iff_ne.mpr c72
     have c72b1 : (t764 != (wrap64 (-t735))) = true := bne_iff_ne.mpr c72
     have H' := Aside0.mk H
     clear H
     try go_wp2
     have n0_ : Aside0 (Kd.R k30 30 ((((w42.setCell ⟨gb752, 0, none⟩ (.int .i64 t748)).setCell ⟨gb752, 1, none⟩ (.bool t749)).setCell ⟨gb752, 2, none⟩ (.int .u64 t750)).setCell ⟨gb752, 3, none⟩ (.int .i64 t751)) w.heap.size (fun k_ => some k_ ≠ (.slice Ao40 y745.length co40 : Value).ownBlock ∧ k_ ≠ gb731 ∧ k_ ≠ gb732 ∧ k_ ≠ gb733 ∧ k_ ≠ gb744 ∧ k_ ≠ gb752) (.slice Ao28 y737.length co28) y737) := ⟨by (with_reducible repeat (first | apply Kd.R_alloc | apply Kd.R_drewN | apply Kd.R_drew)); exact Kd.R_mono (Kd.R_far (p := ⟨gb752, 3, none⟩) (Kd.R_far (p := ⟨gb752, 2, none⟩) (Kd.R_far (p := ⟨gb752, 1, none⟩) (Kd.R_far (p := ⟨gb752, 0, none⟩) (Kd.R_mono HO739.out (fun k_ hk => (⟨hk, hk.2⟩ : _ ∧ k_ ≠ gb752))) (fun _ hk => hk.2) (.int .i64 t748)) (fun _ hk => hk.2) (.bool t749)) (fun _ hk => hk.2) (.int .u64 t750)) (fun _ hk => hk.2) (.int .i64 t751)) (fun _ hk => ⟨hk.1.1.2, ⟨hk.1.1.1.1.1.1.2, ⟨hk.1.1.1.1.1.2, ⟨hk.1.1.1.1.2, ⟨hk.1.1.1.2, hk.1.2⟩⟩⟩⟩⟩)⟩
     have n1_ : Aside0 (Kd.R k30 30 ((((w42.setCell ⟨gb752, 0, none⟩ (.int .i64 t748)).setCell ⟨gb752, 1, none⟩ (.bool t749)).setCell ⟨gb752, 2, none⟩ (.int .u64 t750)).setCell ⟨gb752, 3, none⟩ (.int .i64 t751)) w.heap.size (fun k_ => some k_ ≠ (.slice Ao28 y737.length co28 : Value).ownBlock ∧ k_ ≠ gb731 ∧ k_ ≠ gb732 ∧ k_ ≠ gb733 ∧ k_ ≠ gb744 ∧ k_ ≠ gb752) (.slice Ao40 y745.length co40) y745) := ⟨by (with_reducible repeat (first | apply Kd.R_alloc | apply Kd.R_drewN | apply Kd.R_drew)); exact Kd.R_mono (Kd.R_far (p := ⟨gb752, 3, none⟩) (Kd.R_far (p := ⟨gb752, 2, none⟩) (Kd.R_far (p := ⟨gb752, 1, none⟩) (Kd.R_far (p := ⟨gb752, 0, none⟩) (Kd.R_mono HO747.out (fun k_ hk => (⟨hk, hk.2⟩ : _ ∧ k_ ≠ gb752))) (fun _ hk => hk.2) (.int .i64 t748)) (fun _ hk => hk.2) (.bool t749)) (fun _ hk => hk.2) (.int .u64 t750)) (fun _ hk => hk.2) (.int .i64 t751)) (fun _ hk => ⟨hk.1.1.1.1.1.1.2, ⟨hk.1.1.1.1.1.2, ⟨hk.1.1.1.1.2, ⟨hk.1.1.1.2, ⟨hk.1.1.2, hk.1.2⟩⟩⟩⟩⟩)⟩
     have n2_ : Aside0 (((((w42.setCell ⟨gb752, 0, none⟩ (.int .i64 t748)).setCell ⟨gb752, 1, none⟩ (.bool t749)).setCell ⟨gb752, 2, none⟩ (.int .u64 t750)).setCell ⟨gb752, 3, none⟩ (.int .i64 t751)).heap[gb731]? = some (.cells #[.int .i64 a0_0, .bool a0_1, .int .u64 a0_2, .int .i64 a0_3] 30 (0, 0))) := ⟨by refine kb_ ?_; refine bf_ NB731_752 ?_; refine bf_ NB731_752 ?_; refine bf_ NB731_752 ?_; refine bf_ NB731_752 ?_; exact BK731.out⟩
     have n3_ : Aside0 (((((w42.setCell ⟨gb752, 0, none⟩ (.int .i64 t748)).setCell ⟨gb752, 1, none⟩ (.bool t749)).setCell ⟨gb752, 2, none⟩ (.int .u64 t750)).setCell ⟨gb752, 3, none⟩ (.int .i64 t751)).heap[gb732]? = some (.cells #[.int .i64 a1_0, .bool a1_1, .int .u64 a1_2, .int .i64 a1_3] 30 (0, 0))) := ⟨by refine kb_ ?_; refine bf_ NB732_752 ?_; refine bf_ NB732_752 ?_; refine bf_ NB732_752 ?_; refine bf_ NB732_752 ?_; exact BK732.out⟩
     have n4_ : Aside0 (((((w42.setCell ⟨gb752, 0, none⟩ (.int .i64 t748)).setCell ⟨gb752, 1, none⟩ (.bool t749)).setCell ⟨gb752, 2, none⟩ (.int .u64 t750)).setCell ⟨gb752, 3, none⟩ (.int .i64 t751)).heap[gb733]? = some (.cells #[.int .i64 a2_0, .bool a2_1, .int .u64 a2_2, .int .i64 a2_3] 30 (0, 0))) := ⟨by refine kb_ ?_; refine bf_ NB733_752 ?_; refine bf_ NB733_752 ?_; refine bf_ NB733_752 ?_; refine bf_ NB733_752 ?_; exact BK733.out⟩
     have n5_ : Aside0 (((((w42.setCell ⟨gb752, 0, none⟩ (.int .i64 t748)).setCell ⟨gb752, 1, none⟩ (.bool t749)).setCell ⟨gb752, 2, none⟩ (.int .u64 t750)).setCell ⟨gb752, 3, none⟩ (.int .i64 t751)).heap[gb744]? = some (.cells #[.int .i64 t740, .bool t741, .int .u64 t742, .int .i64 t743] 30 (0, 0))) := ⟨by refine kb_ ?_; refine bf_ NB744_752 ?_; refine bf_ NB744_752 ?_; refine bf_ NB744_752 ?_; refine bf_ NB744_752 ?_; exact BK744.out⟩
     have n6_ : Aside0 (((((w42.setCell ⟨gb752, 0, none⟩ (.int .i64 t748)).setCell ⟨gb752, 1, none⟩ (.bool t749)).setCell ⟨gb752, 2, none⟩ (.int .u64 t750)).setCell ⟨gb752, 3, none⟩ (.int .i64 t751)).heap[gb752]? = some (.cells #[.int .i64 t748, .bool t749, .int .u64 t750, .int .i64 t751] 30 (0, 0))) := ⟨by refine kb_ ?_; refine bp_ #[.int .i64 t748, .bool t749, .int .u64 t750, .int .i64 0] 3 ?_; refine bp_ #[.int .i64 t748, .bool t749, .int .u64 0, .int .i64 0] 2 ?_; refine bp_ #[.int .i64 t748, .bool false, .int .u64 0, .int .i64 0] 1 ?_; refine bp_ #[.int .i64 0, .bool false, .int .u64 0, .int .i64 0] 0 ?_; exact BK752.out⟩
     have n7_ : Aside0 (Below w.heap.size w ((((w42.setCell ⟨gb752, 0, none⟩ (.int .i64 t748)).setCell ⟨gb752, 1, none⟩ (.bool t749)).setCell ⟨gb752, 2, none⟩ (.int .u64 t750)).setCell ⟨gb752, 3, none⟩ (.int .i64 t751))) := ⟨bw_ HB.out⟩
     (try clear HO739)
     (try clear HO747)
     (try clear BK731)
     (try clear BK732)
     (try clear BK733)
     (try clear BK744)
     (try clear BK752)
     (try clear HB)
     generalize ((((w42.setCell ⟨gb752, 0, none⟩ (.int .i64 t748)).setCell ⟨gb752, 1, none⟩ (.bool t749)).setCell ⟨gb752, 2, none⟩ (.int .u64 t750)).setCell ⟨gb752, 3, none⟩ (.int .i64 t751)) = w82 at n0_ n1_ n2_ n3_ n4_ n5_ n6_ n7_ ⊢
     have HO739 := n0_
     have HO747 := n1_
     have BK731 := n2_
     have BK732 := n3_
     have BK733 := n4_
     have BK744 := n5_
     have BK752 := n6_
     have HB := n7_
     clear n0_ n1_ n2_ n3_ n4_ n5_ n6_ n7_
     replace HO739 := Aside0.mk (Kd.R_drew HO739.out)
     replace HO747 := Aside0.mk (Kd.R_drew HO747.out)
     replace BK731 := Aside0.mk (blk_drew BK731.out)
     replace BK732 := Aside0.mk (blk_drew BK732.out)
     replace BK733 := Aside0.mk (blk_drew BK733.out)
     replace BK744 := Aside0.mk (blk_drew BK744.out)
     replace BK752 := Aside0.mk (blk_drew BK752.out)
     replace HB := Aside0.mk (below_drew1 HB.out)
     refine start_ (n := 30) (S := fun w' => w'.cell? ⟨gb732, 0, none⟩ = some (.int .i64 a1_0) ∧ w'.cell? ⟨gb732, 1, none⟩ = some (.bool a1_1) ∧ w'.cell? ⟨gb732, 2, none⟩ = some (.int .u64 a1_2) ∧ w'.cell? ⟨gb732, 3, none⟩ = some (.int .i64 a1_3) ∧ w'.cell? ⟨gb731, 0, none⟩ = some (.int .i64 a0_0) ∧ w'.cell? ⟨gb731, 1, none⟩ = some (.bool a0_1) ∧ w'.cell? ⟨gb731, 2, none⟩ = some (.int .u64 a0_2) ∧ w'.cell? ⟨gb731, 3, none⟩ = some (.int .i64 a0_3)) (ds := []) #[false, false, false, false, false, false, false, false, false, false, false, false, false, false, false, false, false, false, false, false, false, false, false, false, false, false, false, false, false, false] (by kernel_rfl) rfl rfl ⟨(blk_cell BK732.out 0).trans rfl, (blk_cell BK732.out 1).trans rfl, (blk_cell BK732.out 2).trans rfl, (blk_cell BK732.out 3).trans rfl, (blk_cell BK731.out 0).trans rfl, (blk_cell BK731.out 1).trans rfl, (blk_cell BK731.out 2).trans rfl, (blk_cell BK731.out 3).trans rfl⟩ (fun hHeld => ?_); refine with_tabW peloruslaw05_NumOrder.tab6 peloruslaw05_NumOrder.bits6 (fun HT_ HW_ => ?_)
     generalize w82.drew = w83 at HO739 HO747 BK731 BK732 BK733 BK744 BK752 HB hHeld ⊢
     refine pure_ (i := 0) (N := some 30) (v := ?_) (a' := ?_) #[true, false, false, false, false, false, false, false, false, false, false, false, false, false, false, false, false, false, false, false, false, false, false, false, false, false, false, false, false, false] rfl rfl (any_of HT_.out (by kernel_rfl)) (fun _ _ _ h => h) (Or.inl ⟨by rfl, ?_⟩) ?_ ?_
     rotate_left
     ·intro w'
      go_simp
      with_reducible rfl
     rotate_left
     ·exact pt_
     refine pure_ (i := 1) (N := some 31) (v := ?_) (a' := ?_) #[true, true, false, false, false, false, false, false, false, false, false, false, false, false, false, false, false, false, false, false, false, false, false, false, false, false, false, false, false, false] rfl rfl (any_of HT_.out (by kernel_rfl)) (fun _ _ _ h => h) (Or.inl ⟨by rfl, ?_⟩) ?_ ?_
     rotate_left
     ·intro w'
      go_simp
      with_reducible rfl
     rotate_left
     ·exact pt_
     refine pure_ (i := 2) (N := some 32) (v := ?_) (a' := ?_) #[true, true, true, false, false, false, false, false, false, false, false, false, false, false, false, false, false, false, false, false, false, false, false, false, false, false, false, false, false, false] rfl rfl (any_of HT_.out (by kernel_rfl)) (fun _ _ _ h => h) (Or.inl ⟨by rfl, ?_⟩) ?_ ?_
     rotate_left
     ·intro w'
      go_simp
      with_reducible rfl
     rotate_left
     ·exact pt_
     refine pure_ (i := 3) (N := some 33) (v := ?_) (a' := ?_) #[true, true, true, true, false, false, false, false, false, false, false, false, false, false, false, false, false, false, false, false, false, false, false, false, false, false, false, false, false, false] rfl rfl (any_of HT_.out (by kernel_rfl)) (fun _ _ _ h => h) (Or.inl ⟨by rfl, ?_⟩) ?_ ?_
     rotate_left
     ·intro w'
      go_simp
      with_reducible rfl
     rotate_left
     ·exact pt_
     refine pure_ (i := 4) (N := some 34) (v := ?_) (a' := ?_) #[true, true, true, true, true, false, false, false, false, false, false, false, false, false, false, false, false, false, false, false, false, false, false, false, false, false, false, false, false, false] rfl rfl (any_of HT_.out (by kernel_rfl)) (fun _ _ _ h => h) (Or.inl ⟨by rfl, ?_⟩) ?_ ?_
     rotate_left
     ·intro w'
      go_simp
      with_reducible rfl
     rotate_left
     ·exact pt_
     refine pure_ (i := 5) (N := some 35) (v := ?_) (a' := ?_) #[true, true, true, true, true, true, false, false, false, false, false, false, false, false, false, false, false, false, false, false, false, false, false, false, false, false, false, false, false, false] rfl rfl (any_of HT_.out (by kernel_rfl)) (fun _ _ _ h => h) (Or.inl ⟨by rfl, ?_⟩) ?_ ?_
     rotate_left
     ·intro w'
      go_simp
      with_reducible rfl
     rotate_left
     ·exact pt_
     refine pure_ (i := 6) (N := some 36) (v := ?_) (a' := ?_) #[true, true, true, true, true, true, true, false, false, false, false, false, false, false, false, false, false, false, false, false, false, false, false, false, false, false, false, false, false, false] rfl rfl (any_of HT_.out (by kernel_rfl)) (fun _ _ _ h => h) (Or.inl ⟨by rfl, ?_⟩) ?_ ?_
     rotate_left
     ·intro w'
      go_simp
      with_reducible rfl
     rotate_left
     ·exact pt_
     refine pure_ (i := 7) (N := some 37) (v := undef) (a' := ?_) #[true, true, true, true, true, true, true, true, false, false, false, false, false, false, false, false, false, false, false, false, false, false, false, false, false, false, false, false, false, false] rfl rfl (any_of HT_.out (by kernel_rfl)) (fun _ _ _ h => h) (Or.inr ⟨by rfl, rfl⟩) ?_ ?_
     rotate_left
     ·exact pt_
     refine pure_ (i := 8) (N := some 38) (v := undef) (a' := ?_) #[true, true, true, true, true, true, true, true, true, false, false, false, false, false, false, false, false, false, false, false, false, false, false, false, false, false, false, false, false, false] rfl rfl (any_of HT_.out (by kernel_rfl)) (fun _ _ _ h => h) (Or.inr ⟨by rfl, rfl⟩) ?_ ?_
     rotate_left
     ·exact pt_
     refine pure_ (i := 9) (N := some 39) (v := undef) (a' := ?_) #[true, true, true, true, true, true, true, true, true, true, false, false, false, false, false, false, false, false, false, false, false, false, false, false, false, false, false, false, false, false] rfl rfl (any_of HT_.out (by kernel_rfl)) (fun _ _ _ h => h) (Or.inr ⟨by rfl, rfl⟩) ?_ ?_
     rotate_left
     ·exact pt_
     refine pure_ (i := 10) (N := some 40) (v := undef) (a' := ?_) #[true, true, true, true, true, true, true, true, true, true, true, false, false, false, false, false, false, false, false, false, false, false, false, false, false, false, false, false, false, false] rfl rfl (any_of HT_.out (by kernel_rfl)) (fun _ _ _ h => h) (Or.inr ⟨by rfl, rfl⟩) ?_ ?_
     rotate_left
     ·exact pt_
     refine pure_ (i := 11) (N := some 41) (v := ?_) (a' := ?_) #[true, true, true, true, true, true, true, true, true, true, true, true, false, false, false, false, false, false, false, false, false, false, false, false, false, false, false, false, false, false] rfl rfl (any_of HT_.out (by kernel_rfl)) (fun _ _ _ h => h) (Or.inl ⟨by rfl, ?_⟩) ?_ ?_
     rotate_left
     ·intro w'
      go_simp
      with_reducible rfl
     rotate_left
     ·exact pt_
     refine pure_ (i := 12) (N := some 42) (v := ?_) (a' := ?_) #[true, true, true, true, true, true, true, true, true, true, true, true, true, false, false, false, false, false, false, false, false, false, false, false, false, false, false, false, false, false] rfl rfl (any_of HT_.out (by kernel_rfl)) (fun _ _ _ h => h) (Or.inl ⟨by rfl, ?_⟩) ?_ ?_
     rotate_left
     ·intro w'
      go_simp
      with_reducible rfl
     rotate_left
     ·exact pt_
     refine pure_ (i := 16) (N := some 46) (v := ?_) (a' := ?_) #[true, true, true, true, true, true, true, true, true, true, true, true, true, false, false, false, true, false, false, false, false, false, false, false, false, false, false, false, false, false] rfl rfl (any_of HT_.out (by kernel_rfl)) (fun _ _ _ h => h) (Or.inl ⟨by rfl, ?_⟩) ?_ ?_
     rotate_left
     ·intro w'
      go_simp
      with_reducible rfl
     rotate_left
     ·exact pt_
     refine pure_ (i := 17) (N := some 47) (v := ?_) (a' := ?_) #[true, true, true, true, true, true, true, true, true, true, true, true, true, false, false, false, true, true, false, false, false, false, false, false, false, false, false, false, false, false] rfl rfl (any_of HT_.out (by kernel_rfl)) (fun _ _ _ h => h) (Or.inl ⟨by rfl, ?_⟩) ?_ ?_
     rotate_left
     ·intro w'
      go_simp
      with_reducible rfl
     rotate_left
     ·exact pt_
     refine take_ (i := 13) (N := some 43) (v := ?_) (a' := ?_) #[true, true, true, true, true, true, true, true, true, true, true, true, true, true, false, false, true, true, false, false, false, false, false, false, false, false, false, false, false, false] rfl rfl (take_ofW HT_.out HW_.out (by kernel_rfl)) (fun _ _ _ h => h) (Or.inl ⟨by rfl, ?_⟩) hHeld ?_ ?_
     rotate_left
     ·rintro w' ⟨s0, s1, s2, s3, s4, s5, s6, s7⟩
      go_simp
      with_reducible rfl
     rotate_left
     ·exact pt_
     refine take_ (i := 14) (N := some 44) (v := ?_) (a' := ?_) #[true, true, true, true, true, true, true, true, true, true, true, true, true, true, true, false, true, true, false, false, false, false, false, false, false, false, false, false, false, false] rfl rfl (take_ofW HT_.out HW_.out (by kernel_rfl)) (fun _ _ _ h => h) (Or.inl ⟨by rfl, ?_⟩) hHeld ?_ ?_
     rotate_left
     ·rintro w' ⟨s0, s1, s2, s3, s4, s5, s6, s7⟩
      go_simp
      with_reducible rfl
     rotate_left
     ·exact pt_
     refine one_ (i := 15) (N := some 45) #[true, true, true, true, true, true, true, true, true, true, true, true, true, true, true, true, true, true, false, false, false, false, false, false, false, false, false, false, false, false] rfl rfl (one_of HT_.out (by kernel_rfl)) (by decide) (fun K hK => ?_)
     refine gs_ Tryd.func17 #[.agg #[.int .i64 a1_0, .bool a1_1, .int .u64 a1_2, .int .i64 a1_3], .agg #[.int .i64 a0_0, .bool a0_1, .int .u64 a0_2, .int .i64 a0_3]] ?_
     with_reducible refine (num_Cmp.calls a1_0 a1_1 a1_2 a1_3 a0_0 a0_1 a0_2 a0_3 t764 _ A71.out).mono ?_
     rintro e w84 ⟨rfl, hb⟩
     refine ⟨_, rfl, ?_⟩
     replace HO739 := Aside0.mk (Kd.R_below (kr_ HO739.out) hb)
     replace HO747 := Aside0.mk (Kd.R_below (kr_ HO747.out) hb)
     replace BK731 := kq_ BK731 hb
     replace BK732 := kq_ BK732 hb
     replace BK733 := kq_ BK733 hb
     replace BK744 := kq_ BK744 hb
     replace BK752 := kq_ BK752 hb
     replace HB := bq_ HB hb
     (try clear hb)
     (try clear hb2)
     (try clear hk)
     (try clear hi)
     refine hK.out _ _ ⟨(blk_cell BK732.out 0).trans rfl, (blk_cell BK732.out 1).trans rfl, (blk_cell BK732.out 2).trans rfl, (blk_cell BK732.out 3).trans rfl, (blk_cell BK731.out 0).trans rfl, (blk_cell BK731.out 1).trans rfl, (blk_cell BK731.out 2).trans rfl, (blk_cell BK731.out 3).trans rfl⟩ (fun hHeld => ?_)
     clear hK K
     refine norm_ (a' := ?_) ?_ ?_
     rotate_left
     ·show Act.put _ (some 45) _ = _
      exact pt_
     refine pure_ (i := 18) (N := some 48) (v := ?_) (a' := ?_) #[true, true, true, true, true, true, true, true, true, true, true, true, true, true, true, true, true, true, true, false, false, false, false, false, false, false, false, false, false, false] rfl rfl (any_of HT_.out (by kernel_rfl)) (fun _ _ _ h => h) (Or.inl ⟨by rfl, ?_⟩) ?_ ?_
     rotate_left
     ·intro w'
      go_simp
      with_reducible rfl
     rotate_left
     ·exact pt_
     refine pure_ (i := 19) (N := some 49) (v := ?_) (a' := ?_) #[true, true, true, true, true, true, true, true, true, true, true, true, true, true, true, true, true, true, true, true, false, false, false, false, false, false, false, false, false, false] rfl rfl (any_of HT_.out (by kernel_rfl)) (fun _ _ _ h => h) (Or.inl ⟨by rfl, ?_⟩) ?_ ?_
     rotate_left
     ·intro w'
      go_simp
      with_reducible rfl
     rotate_left
     ·exact pt_
     refine pure_ (i := 20) (N := some 50) (v := ?_) (a' := ?_) #[true, true, true, true, true, true, true, true, true, true, true, true, true, true, true, true, true, true, true, true, true, false, false, false, false, false, false, false, false, false] rfl rfl (any_of HT_.out (by kernel_rfl)) (fun _ _ _ h => h) (Or.inl ⟨by rfl, ?_⟩) ?_ ?_
     rotate_left
     ·intro w'
      go_simp
      with_reducible rfl
     rotate_left
     ·exact pt_
     refine pure_ (i := 21) (N := some 51) (v := undef) (a' := ?_) #[true, true, true, true, true, true, true, true, true, true, true, true, true, true, true, true, true, true, true, true, true, true, false, false, false, false, false, false, false, false] rfl rfl (any_of HT_.out (by kernel_rfl)) (fun _ _ _ h => h) (Or.inr ⟨by rfl, rfl⟩) ?_ ?_
     rotate_left
     ·exact pt_
     refine pure_ (i := 22) (N := some 52) (v := undef) (a' := ?_) #[true, true, true, true, true, true, true, true, true, true, true, true, true, true, true, true, true, true, true, true, true, true, true, false, false, false, false, false, false, false] rfl rfl (any_of HT_.out (by kernel_rfl)) (fun _ _ _ h => h) (Or.inr ⟨by rfl, rfl⟩) ?_ ?_
     rotate_left
     ·exact pt_
     refine pure_ (i := 23) (N := some 53) (v := undef) (a' := ?_) #[true, true, true, true, true, true, true, true, true, true, true, true, true, true, true, true, true, true, true, true, true, true, true, true, false, false, false, false, false, false] rfl rfl (any_of HT_.out (by kernel_rfl)) (fun _ _ _ h => h) (Or.inr ⟨by rfl, rfl⟩) ?_ ?_
     rotate_left
     ·exact pt_
     refine pure_ (i := 24) (N := some 54) (v := undef) (a' := ?_) #[true, true, true, true, true, true, true, true, true, true, true, true, true, true, true, true, true, true, true, true, true, true, true, true, true, false, false, false, false, false] rfl rfl (any_of HT_.out (by kernel_rfl)) (fun _ _ _ h => h) (Or.inr ⟨by rfl, rfl⟩) ?_ ?_
     rotate_left
     ·exact pt_
     refine pure_ (i := 25) (N := some 55) (v := undef) (a' := ?_) #[true, true, true, true, true, true, true, true, true, true, true, true, true, true, true, true, true, true, true, true, true, true, true, true, true, true, false, false, false, false] rfl rfl (any_of HT_.out (by kernel_rfl)) (fun _ _ _ h => h) (Or.inr ⟨by rfl, rfl⟩) ?_ ?_
     rotate_left
     ·exact pt_
     refine pure_ (i := 26) (N := some 56) (v := undef) (a' := ?_) #[true, true, true, true, true, true, true, true, true, true, true, true, true, true, true, true, true, true, true, true, true, true, true, true, true, true, true, false, false, false] rfl rfl (any_of HT_.out (by kernel_rfl)) (fun _ _ _ h => h) (Or.inr ⟨by rfl, rfl⟩) ?_ ?_
     rotate_left
     ·exact pt_
     refine pure_ (i := 27) (N := some 57) (v := undef) (a' := ?_) #[true, true, true, true, true, true, true, true, true, true, true, true, true, true, true, true, true, true, true, true, true, true, true, true, true, true, true, true, false, false] rfl rfl (any_of HT_.out (by kernel_rfl)) (fun _ _ _ h => h) (Or.inr ⟨by rfl, rfl⟩) ?_ ?_
     rotate_left
     ·exact pt_
     refine pure_ (i := 28) (N := some 58) (v := undef) (a' := ?_) #[true, true, true, true, true, true, true, true, true, true, true, true, true, true, true, true, true, true, true, true, true, true, true, true, true, true, true, true, true, false] rfl rfl (any_of HT_.out (by kernel_rfl)) (fun _ _ _ h => h) (Or.inr ⟨by rfl, rfl⟩) ?_ ?_
     rotate_left
     ·exact pt_
     refine pure_ (i := 29) (N := some 59) (v := ?_) (a' := ?_) #[true, true, true, true, true, true, true, true, true, true, true, true, true, true, true, true, true, true, true, true, true, true, true, true, true, true, true, true, true, true] rfl rfl (any_of HT_.out (by kernel_rfl)) (fun _ _ _ h => h) (Or.inl ⟨by rfl, ?_⟩) ?_ ?_
     rotate_left
     ·intro w'
      go_simp
      with_reducible rfl
     rotate_left
     ·exact pt_
     refine done_ (done_of HT_.out (by kernel_rfl)) ?_
     try go_wp2
     go_meet
     case rel => exact ⟨_, (true), (by first | rfl | (simp; done) | (simp [*]; done)), H', ⟨by first | omega | exact Nat.le_refl _⟩, ⟨kb_ BK731.out⟩, ⟨kb_ BK732.out⟩, ⟨kb_ BK733.out⟩, ⟨kb_ BK744.out⟩, ⟨kb_ BK752.out⟩, ⟨bw_ HB.out⟩⟩
  ·rw [if_neg c48] at H
   have c48b0 : decide (t735 ≤ 0) = false := decide_eq_false c48
   clear c48
   (first | rw [c48b0] | (simp only [i64_w, i32_w]; rw [c48b0]) | skip)
   replace H := Option.bind_eq_some_iff.mp H
   obtain ⟨t774, A850, H⟩ := H
   (try dsimp only at H)
   have A85 := Aside0.mk A850
   clear A850
   by_cases c86 : t774 = (wrap64 (-t735))
   ·rw [if_pos c86] at H
    have c86b0 : (t774 == (wrap64 (-t735))) = true := beq_iff_eq.mpr c86
    have c86b1 : (t774 != (wrap64 (-t735))) = false := bne_eq_false_iff_eq.mpr c86
    clear c86
    replace H := Option.bind_eq_some_iff.mp H
    obtain ⟨⟨t775, t776, t777, t778⟩, A870, H⟩ := H
    (try dsimp only at H)
    have A87 := Aside0.mk A870
    clear A870
    replace H := Option.bind_eq_some_iff.mp H
    obtain ⟨⟨t779, t780, t781, t782⟩, A880, H⟩ := H
    (try dsimp only at H)
    have A88 := Aside0.mk A880
    clear A880
    replace H := Option.bind_eq_some_iff.mp H
    obtain ⟨t783, A890, H⟩ := H
    (try dsimp only at H)
    have A89 := Aside0.mk A890
    clear A890
    have H' := Aside0.mk H
    clear H
    try go_wp2
    have n0_ : Aside0 (Kd.R k30 30 ((((w42.setCell ⟨gb752, 0, none⟩ (.int .i64 t748)).setCell ⟨gb752, 1, none⟩ (.bool t749)).setCell ⟨gb752, 2, none⟩ (.int .u64 t750)).setCell ⟨gb752, 3, none⟩ (.int .i64 t751)) w.heap.size (fun k_ => some k_ ≠ (.slice Ao40 y745.length co40 : Value).ownBlock ∧ k_ ≠ gb731 ∧ k_ ≠ gb732 ∧ k_ ≠ gb733 ∧ k_ ≠ gb744 ∧ k_ ≠ gb752) (.slice Ao28 y737.length co28) y737) := ⟨by (with_reducible repeat (first | apply Kd.R_alloc | apply Kd.R_drewN | apply Kd.R_drew)); exact Kd.R_mono (Kd.R_far (p := ⟨gb752, 3, none⟩) (Kd.R_far (p := ⟨gb752, 2, none⟩) (Kd.R_far (p := ⟨gb752, 1, none⟩) (Kd.R_far (p := ⟨gb752, 0, none⟩) (Kd.R_mono HO739.out (fun k_ hk => (⟨hk, hk.2⟩ : _ ∧ k_ ≠ gb752))) (fun _ hk => hk.2) (.int .i64 t748)) (fun _ hk => hk.2) (.bool t749)) (fun _ hk => hk.2) (.int .u64 t750)) (fun _ hk => hk.2) (.int .i64 t751)) (fun _ hk => ⟨hk.1.1.2, ⟨hk.1.1.1.1.1.1.2, ⟨hk.1.1.1.1.1.2, ⟨hk.1.1.1.1.2, ⟨hk.1.1.1.2, hk.1.2⟩⟩⟩⟩⟩)⟩
    have n1_ : Aside0 (Kd.R k30 30 ((((w42.setCell ⟨gb752, 0, none⟩ (.int .i64 t748)).setCell ⟨gb752, 1, none⟩ (.bool t749)).setCell ⟨gb752, 2, none⟩ (.int .u64 t750)).setCell ⟨gb752, 3, none⟩ (.int .i64 t751)) w.heap.size (fun k_ => some k_ ≠ (.slice Ao28 y737.length co28 : Value).ownBlock ∧ k_ ≠ gb731 ∧ k_ ≠ gb732 ∧ k_ ≠ gb733 ∧ k_ ≠ gb744 ∧ k_ ≠ gb752) (.slice Ao40 y745.length co40) y745) := ⟨by (with_reducible repeat (first | apply Kd.R_alloc | apply Kd.R_drewN | apply Kd.R_drew)); exact Kd.R_mono (Kd.R_far (p := ⟨gb752, 3, none⟩) (Kd.R_far (p := ⟨gb752, 2, none⟩) (Kd.R_far (p := ⟨gb752, 1, none⟩) (Kd.R_far (p := ⟨gb752, 0, none⟩) (Kd.R_mono HO747.out (fun k_ hk => (⟨hk, hk.2⟩ : _ ∧ k_ ≠ gb752))) (fun _ hk => hk.2) (.int .i64 t748)) (fun _ hk => hk.2) (.bool t749)) (fun _ hk => hk.2) (.int .u64 t750)) (fun _ hk => hk.2) (.int .i64 t751)) (fun _ hk => ⟨hk.1.1.1.1.1.1.2, ⟨hk.1.1.1.1.1.2, ⟨hk.1.1.1.1.2, ⟨hk.1.1.1.2, ⟨hk.1.1.2, hk.1.2⟩⟩⟩⟩⟩)⟩
    have n2_ : Aside0 (((((w42.setCell ⟨gb752, 0, none⟩ (.int .i64 t748)).setCell ⟨gb752, 1, none⟩ (.bool t749)).setCell ⟨gb752, 2, none⟩ (.int .u64 t750)).setCell ⟨gb752, 3, none⟩ (.int .i64 t751)).heap[gb731]? = some (.cells #[.int .i64 a0_0, .bool a0_1, .int .u64 a0_2, .int .i64 a0_3] 30 (0, 0))) := ⟨by refine kb_ ?_; refine bf_ NB731_752 ?_; refine bf_ NB731_752 ?_; refine bf_ NB731_752 ?_; refine bf_ NB731_752 ?_; exact BK731.out⟩
    have n3_ : Aside0 (((((w42.setCell ⟨gb752, 0, none⟩ (.int .i64 t748)).setCell ⟨gb752, 1, none⟩ (.bool t749)).setCell ⟨gb752, 2, none⟩ (.int .u64 t750)).setCell ⟨gb752, 3, none⟩ (.int .i64 t751)).heap[gb732]? = some (.cells #[.int .i64 a1_0, .bool a1_1, .int .u64 a1_2, .int .i64 a1_3] 30 (0, 0))) := ⟨by refine kb_ ?_; refine bf_ NB732_752 ?_; refine bf_ NB732_752 ?_; refine bf_ NB732_752 ?_; refine bf_ NB732_752 ?_; exact BK732.out⟩
    have n4_ : Aside0 (((((w42.setCell ⟨gb752, 0, none⟩ (.int .i64 t748)).setCell ⟨gb752, 1, none⟩ (.bool t749)).setCell ⟨gb752, 2, none⟩ (.int .u64 t750)).setCell ⟨gb752, 3, none⟩ (.int .i64 t751)).heap[gb733]? = some (.cells #[.int .i64 a2_0, .bool a2_1, .int .u64 a2_2, .int .i64 a2_3] 30 (0, 0))) := ⟨by refine kb_ ?_; refine bf_ NB733_752 ?_; refine bf_ NB733_752 ?_; refine bf_ NB733_752 ?_; refine bf_ NB733_752 ?_; exact BK733.out⟩
    have n5_ : Aside0 (((((w42.setCell ⟨gb752, 0, none⟩ (.int .i64 t748)).setCell ⟨gb752, 1, none⟩ (.bool t749)).setCell ⟨gb752, 2, none⟩ (.int .u64 t750)).setCell ⟨gb752, 3, none⟩ (.int .i64 t751)).heap[gb744]? = some (.cells #[.int .i64 t740, .bool t741, .int .u64 t742, .int .i64 t743] 30 (0, 0))) := ⟨by refine kb_ ?_; refine bf_ NB744_752 ?_; refine bf_ NB744_752 ?_; refine bf_ NB744_752 ?_; refine bf_ NB744_752 ?_; exact BK744.out⟩
    have n6_ : Aside0 (((((w42.setCell ⟨gb752, 0, none⟩ (.int .i64 t748)).setCell ⟨gb752, 1, none⟩ (.bool t749)).setCell ⟨gb752, 2, none⟩ (.int .u64 t750)).setCell ⟨gb752, 3, none⟩ (.int .i64 t751)).heap[gb752]? = some (.cells #[.int .i64 t748, .bool t749, .int .u64 t750, .int .i64 t751] 30 (0, 0))) := ⟨by refine kb_ ?_; refine bp_ #[.int .i64 t748, .bool t749, .int .u64 t750, .int .i64 0] 3 ?_; refine bp_ #[.int .i64 t748, .bool t749, .int .u64 0, .int .i64 0] 2 ?_; refine bp_ #[.int .i64 t748, .bool false, .int .u64 0, .int .i64 0] 1 ?_; refine bp_ #[.int .i64 0, .bool false, .int .u64 0, .int .i64 0] 0 ?_; exact BK752.out⟩
    have n7_ : Aside0 (Below w.heap.size w ((((w42.setCell ⟨gb752, 0, none⟩ (.int .i64 t748)).setCell ⟨gb752, 1, none⟩ (.bool t749)).setCell ⟨gb752, 2, none⟩ (.int .u64 t750)).setCell ⟨gb752, 3, none⟩ (.int .i64 t751))) := ⟨bw_ HB.out⟩
    (try clear HO739)
    (try clear HO747)
    (try clear BK731)
    (try clear BK732)
    (try clear BK733)
    (try clear BK744)
    (try clear BK752)
    (try clear HB)
    generalize ((((w42.setCell ⟨gb752, 0, none⟩ (.int .i64 t748)).setCell ⟨gb752, 1, none⟩ (.bool t749)).setCell ⟨gb752, 2, none⟩ (.int .u64 t750)).setCell ⟨gb752, 3, none⟩ (.int .i64 t751)) = w90 at n0_ n1_ n2_ n3_ n4_ n5_ n6_ n7_ ⊢
    have HO739 := n0_
    have HO747 := n1_
    have BK731 := n2_
    have BK732 := n3_
    have BK733 := n4_
    have BK744 := n5_
    have BK752 := n6_
    have HB := n7_
    clear n0_ n1_ n2_ n3_ n4_ n5_ n6_ n7_
    replace HO739 := Aside0.mk (Kd.R_drew HO739.out)
    replace HO747 := Aside0.mk (Kd.R_drew HO747.out)
    replace BK731 := Aside0.mk (blk_drew BK731.out)
    replace BK732 := Aside0.mk (blk_drew BK732.out)
    replace BK733 := Aside0.mk (blk_drew BK733.out)
    replace BK744 := Aside0.mk (blk_drew BK744.out)
    replace BK752 := Aside0.mk (blk_drew BK752.out)
    replace HB := Aside0.mk (below_drew1 HB.out)
    refine start_ (n := 30) (S := fun w' => w'.cell? ⟨gb732, 0, none⟩ = some (.int .i64 a1_0) ∧ w'.cell? ⟨gb732, 1, none⟩ = some (.bool a1_1) ∧ w'.cell? ⟨gb732, 2, none⟩ = some (.int .u64 a1_2) ∧ w'.cell? ⟨gb732, 3, none⟩ = some (.int .i64 a1_3) ∧ w'.cell? ⟨gb731, 0, none⟩ = some (.int .i64 a0_0) ∧ w'.cell? ⟨gb731, 1, none⟩ = some (.bool a0_1) ∧ w'.cell? ⟨gb731, 2, none⟩ = some (.int .u64 a0_2) ∧ w'.cell? ⟨gb731, 3, none⟩ = some (.int .i64 a0_3)) (ds := []) #[false, false, false, false, false, false, false, false, false, false, false, false, false, false, false, false, false, false, false, false, false, false, false, false, false, false, false, false, false, false] (by kernel_rfl) rfl rfl ⟨(blk_cell BK732.out 0).trans rfl, (blk_cell BK732.out 1).trans rfl, (blk_cell BK732.out 2).trans rfl, (blk_cell BK732.out 3).trans rfl, (blk_cell BK731.out 0).trans rfl, (blk_cell BK731.out 1).trans rfl, (blk_cell BK731.out 2).trans rfl, (blk_cell BK731.out 3).trans rfl⟩ (fun hHeld => ?_); refine with_tabW peloruslaw05_NumOrder.tab6 peloruslaw05_NumOrder.bits6 (fun HT_ HW_ => ?_)
    generalize w90.drew = w91 at HO739 HO747 BK731 BK732 BK733 BK744 BK752 HB hHeld ⊢
    refine pure_ (i := 0) (N := some 30) (v := ?_) (a' := ?_) #[true, false, false, false, false, false, false, false, false, false, false, false, false, false, false, false, false, false, false, false, false, false, false, false, false, false, false, false, false, false] rfl rfl (any_of HT_.out (by kernel_rfl)) (fun _ _ _ h => h) (Or.inl ⟨by rfl, ?_⟩) ?_ ?_
    rotate_left
    ·intro w'
     go_simp
     with_reducible rfl
    rotate_left
    ·exact pt_
    refine pure_ (i := 1) (N := some 31) (v := ?_) (a' := ?_) #[true, true, false, false, false, false, false, false, false, false, false, false, false, false, false, false, false, false, false, false, false, false, false, false, false, false, false, false, false, false] rfl rfl (any_of HT_.out (by kernel_rfl)) (fun _ _ _ h => h) (Or.inl ⟨by rfl, ?_⟩) ?_ ?_
    rotate_left
    ·intro w'
     go_simp
     with_reducible rfl
    rotate_left
    ·exact pt_
    refine pure_ (i := 2) (N := some 32) (v := ?_) (a' := ?_) #[true, true, true, false, false, false, false, false, false, false, false, false, false, false, false, false, false, false, false, false, false, false, false, false, false, false, false, false, false, false] rfl rfl (any_of HT_.out (by kernel_rfl)) (fun _ _ _ h => h) (Or.inl ⟨by rfl, ?_⟩) ?_ ?_
    rotate_left
    ·intro w'
     go_simp
     with_reducible rfl
    rotate_left
    ·exact pt_
    refine pure_ (i := 3) (N := some 33) (v := undef) (a' := ?_) #[true, true, true, true, false, false, false, false, false, false, false, false, false, false, false, false, false, false, false, false, false, false, false, false, false, false, false, false, false, false] rfl rfl (any_of HT_.out (by kernel_rfl)) (fun _ _ _ h => h) (Or.inr ⟨by rfl, rfl⟩) ?_ ?_
    rotate_left
    ·exact pt_
    refine pure_ (i := 4) (N := some 34) (v := undef) (a' := ?_) #[true, true, true, true, true, false, false, false, false, false, false, false, false, false, false, false, false, false, false, false, false, false, false, false, false, false, false, false, false, false] rfl rfl (any_of HT_.out (by kernel_rfl)) (fun _ _ _ h => h) (Or.inr ⟨by rfl, rfl⟩) ?_ ?_
    rotate_left
    ·exact pt_
    refine pure_ (i := 5) (N := some 35) (v := ?_) (a' := ?_) #[true, true, true, true, true, true, false, false, false, false, false, false, false, false, false, false, false, false, false, false, false, false, false, false, false, false, false, false, false, false] rfl rfl (any_of HT_.out (by kernel_rfl)) (fun _ _ _ h => h) (Or.inl ⟨by rfl, ?_⟩) ?_ ?_
    rotate_left
    ·intro w'
     go_simp
     with_reducible rfl
    rotate_left
    ·exact pt_
    refine pure_ (i := 6) (N := some 36) (v := ?_) (a' := ?_) #[true, true, true, true, true, true, true, false, false, false, false, false, false, false, false, false, false, false, false, false, false, false, false, false, false, false, false, false, false, false] rfl rfl (any_of HT_.out (by kernel_rfl)) (fun _ _ _ h => h) (Or.inl ⟨by rfl, ?_⟩) ?_ ?_
    rotate_left
    ·intro w'
     go_simp
     with_reducible rfl
    rotate_left
    ·exact pt_
    refine pure_ (i := 7) (N := some 37) (v := undef) (a' := ?_) #[true, true, true, true, true, true, true, true, false, false, false, false, false, false, false, false, false, false, false, false, false, false, false, false, false, false, false, false, false, false] rfl rfl (any_of HT_.out (by kernel_rfl)) (fun _ _ _ h => h) (Or.inr ⟨by rfl, rfl⟩) ?_ ?_
    rotate_left
    ·exact pt_
    refine pure_ (i := 8) (N := some 38) (v := undef) (a' := ?_) #[true, true, true, true, true, true, true, true, true, false, false, false, false, false, false, false, false, false, false, false, false, false, false, false, false, false, false, false, false, false] rfl rfl (any_of HT_.out (by kernel_rfl)) (fun _ _ _ h => h) (Or.inr ⟨by rfl, rfl⟩) ?_ ?_
    rotate_left
    ·exact pt_
    refine pure_ (i := 9) (N := some 39) (v := undef) (a' := ?_) #[true, true, true, true, true, true, true, true, true, true, false, false, false, false, false, false, false, false, false, false, false, false, false, false, false, false, false, false, false, false] rfl rfl (any_of HT_.out (by kernel_rfl)) (fun _ _ _ h => h) (Or.inr ⟨by rfl, rfl⟩) ?_ ?_
    rotate_left
    ·exact pt_
    refine pure_ (i := 10) (N := some 40) (v := undef) (a' := ?_) #[true, true, true, true, true, true, true, true, true, true, true, false, false, false, false, false, false, false, false, false, false, false, false, false, false, false, false, false, false, false] rfl rfl (any_of HT_.out (by kernel_rfl)) (fun _ _ _ h => h) (Or.inr ⟨by rfl, rfl⟩) ?_ ?_
    rotate_left
    ·exact pt_
    refine pure_ (i := 11) (N := some 41) (v := ?_) (a' := ?_) #[true, true, true, true, true, true, true, true, true, true, true, true, false, false, false, false, false, false, false, false, false, false, false, false, false, false, false, false, false, false] rfl rfl (any_of HT_.out (by kernel_rfl)) (fun _ _ _ h => h) (Or.inl ⟨by rfl, ?_⟩) ?_ ?_
    rotate_left
    ·intro w'
     go_simp
     with_reducible rfl
    rotate_left
    ·exact pt_
    refine pure_ (i := 12) (N := some 42) (v := ?_) (a' := ?_) #[true, true, true, true, true, true, true, true, true, true, true, true, true, false, false, false, false, false, false, false, false, false, false, false, false, false, false, false, false, false] rfl rfl (any_of HT_.out (by kernel_rfl)) (fun _ _ _ h => h) (Or.inl ⟨by rfl, ?_⟩) ?_ ?_
    rotate_left
    ·intro w'
     go_simp
     with_reducible rfl
    rotate_left
    ·exact pt_
    refine pure_ (i := 16) (N := some 46) (v := ?_) (a' := ?_) #[true, true, true, true, true, true, true, true, true, true, true, true, true, false, false, false, true, false, false, false, false, false, false, false, false, false, false, false, false, false] rfl rfl (any_of HT_.out (by kernel_rfl)) (fun _ _ _ h => h) (Or.inl ⟨by rfl, ?_⟩) ?_ ?_
    rotate_left
    ·intro w'
     go_simp
     with_reducible rfl
    rotate_left
    ·exact pt_
    refine pure_ (i := 17) (N := some 47) (v := ?_) (a' := ?_) #[true, true, true, true, true, true, true, true, true, true, true, true, true, false, false, false, true, true, false, false, false, false, false, false, false, false, false, false, false, false] rfl rfl (any_of HT_.out (by kernel_rfl)) (fun _ _ _ h => h) (Or.inl ⟨by rfl, ?_⟩) ?_ ?_
    rotate_left
    ·intro w'
     go_simp
     with_reducible rfl
    rotate_left
    ·exact pt_
    refine take_ (i := 13) (N := some 43) (v := ?_) (a' := ?_) #[true, true, true, true, true, true, true, true, true, true, true, true, true, true, false, false, true, true, false, false, false, false, false, false, false, false, false, false, false, false] rfl rfl (take_ofW HT_.out HW_.out (by kernel_rfl)) (fun _ _ _ h => h) (Or.inl ⟨by rfl, ?_⟩) hHeld ?_ ?_
    rotate_left
    ·rintro w' ⟨s0, s1, s2, s3, s4, s5, s6, s7⟩
     go_simp
     with_reducible rfl
    rotate_left
    ·exact pt_
    refine take_ (i := 14) (N := some 44) (v := ?_) (a' := ?_) #[true, true, true, true, true, true, true, true, true, true, true, true, true, true, true, false, true, true, false, false, false, false, false, false, false, false, false, false, false, false] rfl rfl (take_ofW HT_.out HW_.out (by kernel_rfl)) (fun _ _ _ h => h) (Or.inl ⟨by rfl, ?_⟩) hHeld ?_ ?_
    rotate_left
    ·rintro w' ⟨s0, s1, s2, s3, s4, s5, s6, s7⟩
     go_simp
     with_reducible rfl
    rotate_left
    ·exact pt_
    refine one_ (i := 15) (N := some 45) #[true, true, true, true, true, true, true, true, true, true, true, true, true, true, true, true, true, true, false, false, false, false, false, false, false, false, false, false, false, false] rfl rfl (one_of HT_.out (by kernel_rfl)) (by decide) (fun K hK => ?_)
    refine gs_ Tryd.func17 #[.agg #[.int .i64 a1_0, .bool a1_1, .int .u64 a1_2, .int .i64 a1_3], .agg #[.int .i64 a0_0, .bool a0_1, .int .u64 a0_2, .int .i64 a0_3]] ?_
    with_reducible refine (num_Cmp.calls a1_0 a1_1 a1_2 a1_3 a0_0 a0_1 a0_2 a0_3 t774 _ A85.out).mono ?_
    rintro e w92 ⟨rfl, hb⟩
    refine ⟨_, rfl, ?_⟩
    replace HO739 := Aside0.mk (Kd.R_below (kr_ HO739.out) hb)
    replace HO747 := Aside0.mk (Kd.R_below (kr_ HO747.out) hb)
    replace BK731 := kq_ BK731 hb
    replace BK732 := kq_ BK732 hb
    replace BK733 := kq_ BK733 hb
    replace BK744 := kq_ BK744 hb
    replace BK752 := kq_ BK752 hb
    replace HB := bq_ HB hb
    (try clear hb)
    (try clear hb2)
    (try clear hk)
    (try clear hi)
    refine hK.out _ _ ⟨(blk_cell BK732.out 0).trans rfl, (blk_cell BK732.out 1).trans rfl, (blk_cell BK732.out 2).trans rfl, (blk_cell BK732.out 3).trans rfl, (blk_cell BK731.out 0).trans rfl, (blk_cell BK731.out 1).trans rfl, (blk_cell BK731.out 2).trans rfl, (blk_cell BK731.out 3).trans rfl⟩ (fun hHeld => ?_)
    clear hK K
    refine norm_ (a' := ?_) ?_ ?_
    rotate_left
    ·show Act.put _ (some 45) _ = _
     exact pt_
    refine pure_ (i := 18) (N := some 48) (v := ?_) (a' := ?_) #[true, true, true, true, true, true, true, true, true, true, true, true, true, true, true, true, true, true, true, false, false, false, false, false, false, false, false, false, false, false] rfl rfl (any_of HT_.out (by kernel_rfl)) (fun _ _ _ h => h) (Or.inl ⟨by rfl, ?_⟩) ?_ ?_
    rotate_left
    ·intro w'
     go_simp
     with_reducible rfl
    rotate_left
    ·exact pt_
    refine pure_ (i := 19) (N := some 49) (v := ?_) (a' := ?_) #[true, true, true, true, true, true, true, true, true, true, true, true, true, true, true, true, true, true, true, true, false, false, false, false, false, false, false, false, false, false] rfl rfl (any_of HT_.out (by kernel_rfl)) (fun _ _ _ h => h) (Or.inl ⟨by rfl, ?_⟩) ?_ ?_
    rotate_left
    ·intro w'
     go_simp
     with_reducible rfl
    rotate_left
    ·exact pt_
    refine pure_ (i := 20) (N := some 50) (v := ?_) (a' := ?_) #[true, true, true, true, true, true, true, true, true, true, true, true, true, true, true, true, true, true, true, true, true, false, false, false, false, false, false, false, false, false] rfl rfl (any_of HT_.out (by kernel_rfl)) (fun _ _ _ h => h) (Or.inl ⟨by rfl, ?_⟩) ?_ ?_
    rotate_left
    ·intro w'
     go_simp
     with_reducible rfl
    rotate_left
    ·exact pt_
    refine pure_ (i := 26) (N := some 56) (v := ?_) (a' := ?_) #[true, true, true, true, true, true, true, true, true, true, true, true, true, true, true, true, true, true, true, true, true, false, false, false, false, false, true, false, false, false] rfl rfl (any_of HT_.out (by kernel_rfl)) (fun _ _ _ h => h) (Or.inl ⟨by rfl, ?_⟩) ?_ ?_
    rotate_left
    ·intro w'
     go_simp
     with_reducible rfl
    rotate_left
    ·exact pt_
    refine pure_ (i := 27) (N := some 57) (v := ?_) (a' := ?_) #[true, true, true, true, true, true, true, true, true, true, true, true, true, true, true, true, true, true, true, true, true, false, false, false, false, false, true, true, false, false] rfl rfl (any_of HT_.out (by kernel_rfl)) (fun _ _ _ h => h) (Or.inl ⟨by rfl, ?_⟩) ?_ ?_
    rotate_left
    ·intro w'
     go_simp
     with_reducible rfl
    rotate_left
    ·exact pt_
    refine take_ (i := 21) (N := some 51) (v := ?_) (a' := ?_) #[true, true, true, true, true, true, true, true, true, true, true, true, true, true, true, true, true, true, true, true, true, true, false, false, false, false, true, true, false, false] rfl rfl (take_ofW HT_.out HW_.out (by kernel_rfl)) (fun _ _ _ h => h) (Or.inl ⟨by rfl, ?_⟩) hHeld ?_ ?_
    rotate_left
    ·rintro w' ⟨s0, s1, s2, s3, s4, s5, s6, s7⟩
     go_simp
     with_reducible rfl
    rotate_left
    ·exact pt_
    refine take_ (i := 23) (N := some 53) (v := ?_) (a' := ?_) #[true, true, true, true, true, true, true, true, true, true, true, true, true, true, true, true, true, true, true, true, true, true, false, true, false, false, true, true, false, false] rfl rfl (take_ofW HT_.out HW_.out (by kernel_rfl)) (fun _ _ _ h => h) (Or.inl ⟨by rfl, ?_⟩) hHeld ?_ ?_
    rotate_left
    ·rintro w' ⟨s0, s1, s2, s3, s4, s5, s6, s7⟩
     go_simp
     with_reducible rfl
    rotate_left
    ·exact pt_
    refine one_ (i := 22) (N := some 52) #[true, true, true, true, true, true, true, true, true, true, true, true, true, true, true, true, true, true, true, true, true, true, true, true, false, false, true, true, false, false] rfl rfl (one_of HT_.out (by kernel_rfl)) (by decide) (fun K hK => ?_)
    refine gs_ Tryd.func16 #[.agg #[.int .i64 a0_0, .bool a0_1, .int .u64 a0_2, .int .i64 a0_3]] ?_
    with_reducible refine (num_Neg.calls a0_0 a0_1 a0_2 a0_3 t775 t776 t777 t778 _ A87.out).mono ?_
    rintro e w93 ⟨rfl, hb⟩
    refine ⟨_, rfl, ?_⟩
    replace HO739 := Aside0.mk (Kd.R_below (kr_ HO739.out) hb)
    replace HO747 := Aside0.mk (Kd.R_below (kr_ HO747.out) hb)
    replace BK731 := kq_ BK731 hb
    replace BK732 := kq_ BK732 hb
    replace BK733 := kq_ BK733 hb
    replace BK744 := kq_ BK744 hb
    replace BK752 := kq_ BK752 hb
    replace HB := bq_ HB hb
    (try clear hb)
    (try clear hb2)
    (try clear hk)
    (try clear hi)
    refine hK.out _ _ ⟨(blk_cell BK732.out 0).trans rfl, (blk_cell BK732.out 1).trans rfl, (blk_cell BK732.out 2).trans rfl, (blk_cell BK732.out 3).trans rfl, (blk_cell BK731.out 0).trans rfl, (blk_cell BK731.out 1).trans rfl, (blk_cell BK731.out 2).trans rfl, (blk_cell BK731.out 3).trans rfl⟩ (fun hHeld => ?_)
    clear hK K
    refine norm_ (a' := ?_) ?_ ?_
    rotate_left
    ·show Act.put _ (some 52) _ = _
     exact pt_
    refine one_ (i := 24) (N := some 54) #[true, true, true, true, true, true, true, true, true, true, true, true, true, true, true, true, true, true, true, true, true, true, true, true, true, false, true, true, false, false] rfl rfl (one_of HT_.out (by kernel_rfl)) (by decide) (fun K hK => ?_)
    refine gs_ Tryd.func16 #[.agg #[.int .i64 a1_0, .bool a1_1, .int .u64 a1_2, .int .i64 a1_3]] ?_
    with_reducible refine (num_Neg.calls a1_0 a1_1 a1_2 a1_3 t779 t780 t781 t782 _ A88.out).mono ?_
    rintro e w94 ⟨rfl, hb⟩
    refine ⟨_, rfl, ?_⟩
    replace HO739 := Aside0.mk (Kd.R_below (kr_ HO739.out) hb)
    replace HO747 := Aside0.mk (Kd.R_below (kr_ HO747.out) hb)
    replace BK731 := kq_ BK731 hb
    replace BK732 := kq_ BK732 hb
    replace BK733 := kq_ BK733 hb
    replace BK744 := kq_ BK744 hb
    replace BK752 := kq_ BK752 hb
    replace HB := bq_ HB hb
    (try clear hb)
    (try clear hb2)
    (try clear hk)
    (try clear hi)
    refine hK.out _ _ ⟨(blk_cell BK732.out 0).trans rfl, (blk_cell BK732.out 1).trans rfl, (blk_cell BK732.out 2).trans rfl, (blk_cell BK732.out 3).trans rfl, (blk_cell BK731.out 0).trans rfl, (blk_cell BK731.out 1).trans rfl, (blk_cell BK731.out 2).trans rfl, (blk_cell BK731.out 3).trans rfl⟩ (fun hHeld => ?_)
    clear hK K
    refine norm_ (a' := ?_) ?_ ?_
    rotate_left
    ·show Act.put _ (some 54) _ = _
     exact pt_
    refine one_ (i := 25) (N := some 55) #[true, true, true, true, true, true, true, true, true, true, true, true, true, true, true, true, true, true, true, true, true, true, true, true, true, true, true, true, false, false] rfl rfl (one_of HT_.out (by kernel_rfl)) (by decide) (fun K hK => ?_)
    refine gs_ Tryd.func17 #[.agg #[.int .i64 t775, .bool t776, .int .u64 t777, .int .i64 t778], .agg #[.int .i64 t779, .bool t780, .int .u64 t781, .int .i64 t782]] ?_
    with_reducible refine (num_Cmp.calls t775 t776 t777 t778 t779 t780 t781 t782 t783 _ A89.out).mono ?_
    rintro e w95 ⟨rfl, hb⟩
    refine ⟨_, rfl, ?_⟩
    replace HO739 := Aside0.mk (Kd.R_below (kr_ HO739.out) hb)
    replace HO747 := Aside0.mk (Kd.R_below (kr_ HO747.out) hb)
    replace BK731 := kq_ BK731 hb
    replace BK732 := kq_ BK732 hb
    replace BK733 := kq_ BK733 hb
    replace BK744 := kq_ BK744 hb
    replace BK752 := kq_ BK752 hb
    replace HB := bq_ HB hb
    (try clear hb)
    (try clear hb2)
    (try clear hk)
    (try clear hi)
    refine hK.out _ _ ⟨(blk_cell BK732.out 0).trans rfl, (blk_cell BK732.out 1).trans rfl, (blk_cell BK732.out 2).trans rfl, (blk_cell BK732.out 3).trans rfl, (blk_cell BK731.out 0).trans rfl, (blk_cell BK731.out 1).trans rfl, (blk_cell BK731.out 2).trans rfl, (blk_cell BK731.out 3).trans rfl⟩ (fun hHeld => ?_)
    clear hK K
    refine norm_ (a' := ?_) ?_ ?_
    rotate_left
    ·show Act.put _ (some 55) _ = _
     exact pt_
    refine pure_ (i := 28) (N := some 58) (v := ?_) (a' := ?_) #[true, true, true, true, true, true, true, true, true, true, true, true, true, true, true, true, true, true, true, true, true, true, true, true, true, true, true, true, true, false] rfl rfl (any_of HT_.out (by kernel_rfl)) (fun _ _ _ h => h) (Or.inl ⟨by rfl, ?_⟩) ?_ ?_
    rotate_left
    ·intro w'
     go_simp
     with_reducible rfl
    rotate_left
    ·exact pt_
    refine pure_ (i := 29) (N := some 59) (v := ?_) (a' := ?_) #[true, true, true, true, true, true, true, true, true, true, true, true, true, true, true, true, true, true, true, true, true, true, true, true, true, true, true, true, true, true] rfl rfl (any_of HT_.out (by kernel_rfl)) (fun _ _ _ h => h) (Or.inl ⟨by rfl, ?_⟩) ?_ ?_
    rotate_left
    ·intro w'
     go_simp
     with_reducible rfl
    rotate_left
    ·exact pt_
    refine done_ (done_of HT_.out (by kernel_rfl)) ?_
    try go_wp2
    go_meet
    case rel => exact ⟨_, ((t783 != (wrap64 (-t735)))), (by first | rfl | (simp; done) | (simp [*]; done)), H', ⟨by first | omega | exact Nat.le_refl _⟩, ⟨kb_ BK731.out⟩, ⟨kb_ BK732.out⟩, ⟨kb_ BK733.out⟩, ⟨kb_ BK744.out⟩, ⟨kb_ BK752.out⟩, ⟨bw_ HB.out⟩⟩
   ·rw [if_neg c86] at H
    have c86b0 : (t774 == (wrap64 (-t735))) = false := beq_eq_false_iff_ne.mpr c86
    have c86b1 : (t774 != (wrap64 (-t735))) = true := bne_iff_ne.mpr c86
    have H' := Aside0.mk H
    clear H
    try go_wp2
    have n0_ : Aside0 (Kd.R k30 30 ((((w42.setCell ⟨gb752, 0, none⟩ (.int .i64 t748)).setCell ⟨gb752, 1, none⟩ (.bool t749)).setCell ⟨gb752, 2, none⟩ (.int .u64 t750)).setCell ⟨gb752, 3, none⟩ (.int .i64 t751)) w.heap.size (fun k_ => some k_ ≠ (.slice Ao40 y745.length co40 : Value).ownBlock ∧ k_ ≠ gb731 ∧ k_ ≠ gb732 ∧ k_ ≠ gb733 ∧ k_ ≠ gb744 ∧ k_ ≠ gb752) (.slice Ao28 y737.length co28) y737) := ⟨by (with_reducible repeat (first | apply Kd.R_alloc | apply Kd.R_drewN | apply Kd.R_drew)); exact Kd.R_mono (Kd.R_far (p := ⟨gb752, 3, none⟩) (Kd.R_far (p := ⟨gb752, 2, none⟩) (Kd.R_far (p := ⟨gb752, 1, none⟩) (Kd.R_far (p := ⟨gb752, 0, none⟩) (Kd.R_mono HO739.out (fun k_ hk => (⟨hk, hk.2⟩ : _ ∧ k_ ≠ gb752))) (fun _ hk => hk.2) (.int .i64 t748)) (fun _ hk => hk.2) (.bool t749)) (fun _ hk => hk.2) (.int .u64 t750)) (fun _ hk => hk.2) (.int .i64 t751)) (fun _ hk => ⟨hk.1.1.2, ⟨hk.1.1.1.1.1.1.2, ⟨hk.1.1.1.1.1.2, ⟨hk.1.1.1.1.2, ⟨hk.1.1.1.2, hk.1.2⟩⟩⟩⟩⟩)⟩
    have n1_ : Aside0 (Kd.R k30 30 ((((w42.setCell ⟨gb752, 0, none⟩ (.int .i64 t748)).setCell ⟨gb752, 1, none⟩ (.bool t749)).setCell ⟨gb752, 2, none⟩ (.int .u64 t750)).setCell ⟨gb752, 3, none⟩ (.int .i64 t751)) w.heap.size (fun k_ => some k_ ≠ (.slice Ao28 y737.length co28 : Value).ownBlock ∧ k_ ≠ gb731 ∧ k_ ≠ gb732 ∧ k_ ≠ gb733 ∧ k_ ≠ gb744 ∧ k_ ≠ gb752) (.slice Ao40 y745.length co40) y745) := ⟨by (with_reducible repeat (first | apply Kd.R_alloc | apply Kd.R_drewN | apply Kd.R_drew)); exact Kd.R_mono (Kd.R_far (p := ⟨gb752, 3, none⟩) (Kd.R_far (p := ⟨gb752, 2, none⟩) (Kd.R_far (p := ⟨gb752, 1, none⟩) (Kd.R_far (p := ⟨gb752, 0, none⟩) (Kd.R_mono HO747.out (fun k_ hk => (⟨hk, hk.2⟩ : _ ∧ k_ ≠ gb752))) (fun _ hk => hk.2) (.int .i64 t748)) (fun _ hk => hk.2) (.bool t749)) (fun _ hk => hk.2) (.int .u64 t750)) (fun _ hk => hk.2) (.int .i64 t751)) (fun _ hk => ⟨hk.1.1.1.1.1.1.2, ⟨hk.1.1.1.1.1.2, ⟨hk.1.1.1.1.2, ⟨hk.1.1.1.2, ⟨hk.1.1.2, hk.1.2⟩⟩⟩⟩⟩)⟩
    have n2_ : Aside0 (((((w42.setCell ⟨gb752, 0, none⟩ (.int .i64 t748)).setCell ⟨gb752, 1, none⟩ (.bool t749)).setCell ⟨gb752, 2, none⟩ (.int .u64 t750)).setCell ⟨gb752, 3, none⟩ (.int .i64 t751)).heap[gb731]? = some (.cells #[.int .i64 a0_0, .bool a0_1, .int .u64 a0_2, .int .i64 a0_3] 30 (0, 0))) := ⟨by refine kb_ ?_; refine bf_ NB731_752 ?_; refine bf_ NB731_752 ?_; refine bf_ NB731_752 ?_; refine bf_ NB731_752 ?_; exact BK731.out⟩
    have n3_ : Aside0 (((((w42.setCell ⟨gb752, 0, none⟩ (.int .i64 t748)).setCell ⟨gb752, 1, none⟩ (.bool t749)).setCell ⟨gb752, 2, none⟩ (.int .u64 t750)).setCell ⟨gb752, 3, none⟩ (.int .i64 t751)).heap[gb732]? = some (.cells #[.int .i64 a1_0, .bool a1_1, .int .u64 a1_2, .int .i64 a1_3] 30 (0, 0))) := ⟨by refine kb_ ?_; refine bf_ NB732_752 ?_; refine bf_ NB732_752 ?_; refine bf_ NB732_752 ?_; refine bf_ NB732_752 ?_; exact BK732.out⟩
    have n4_ : Aside0 (((((w42.setCell ⟨gb752, 0, none⟩ (.int .i64 t748)).setCell ⟨gb752, 1, none⟩ (.bool t749)).setCell ⟨gb752, 2, none⟩ (.int .u64 t750)).setCell ⟨gb752, 3, none⟩ (.int .i64 t751)).heap[gb733]? = some (.cells #[.int .i64 a2_0, .bool a2_1, .int .u64 a2_2, .int .i64 a2_3] 30 (0, 0))) := ⟨by refine kb_ ?_; refine bf_ NB733_752 ?_; refine bf_ NB733_752 ?_; refine bf_ NB733_752 ?_; refine bf_ NB733_752 ?_; exact BK733.out⟩
    have n5_ : Aside0 (((((w42.setCell ⟨gb752, 0, none⟩ (.int .i64 t748)).setCell ⟨gb752, 1, none⟩ (.bool t749)).setCell ⟨gb752, 2, none⟩ (.int .u64 t750)).setCell ⟨gb752, 3, none⟩ (.int .i64 t751)).heap[gb744]? = some (.cells #[.int .i64 t740, .bool t741, .int .u64 t742, .int .i64 t743] 30 (0, 0))) := ⟨by refine kb_ ?_; refine bf_ NB744_752 ?_; refine bf_ NB744_752 ?_; refine bf_ NB744_752 ?_; refine bf_ NB744_752 ?_; exact BK744.out⟩
    have n6_ : Aside0 (((((w42.setCell ⟨gb752, 0, none⟩ (.int .i64 t748)).setCell ⟨gb752, 1, none⟩ (.bool t749)).setCell ⟨gb752, 2, none⟩ (.int .u64 t750)).setCell ⟨gb752, 3, none⟩ (.int .i64 t751)).heap[gb752]? = some (.cells #[.int .i64 t748, .bool t749, .int .u64 t750, .int .i64 t751] 30 (0, 0))) := ⟨by refine kb_ ?_; refine bp_ #[.int .i64 t748, .bool t749, .int .u64 t750, .int .i64 0] 3 ?_; refine bp_ #[.int .i64 t748, .bool t749, .int .u64 0, .int .i64 0] 2 ?_; refine bp_ #[.int .i64 t748, .bool false, .int .u64 0, .int .i64 0] 1 ?_; refine bp_ #[.int .i64 0, .bool false, .int .u64 0, .int .i64 0] 0 ?_; exact BK752.out⟩
    have n7_ : Aside0 (Below w.heap.size w ((((w42.setCell ⟨gb752, 0, none⟩ (.int .i64 t748)).setCell ⟨gb752, 1, none⟩ (.bool t749)).setCell ⟨gb752, 2, none⟩ (.int .u64 t750)).setCell ⟨gb752, 3, none⟩ (.int .i64 t751))) := ⟨bw_ HB.out⟩
    (try clear HO739)
    (try clear HO747)
    (try clear BK731)
    (try clear BK732)
    (try clear BK733)
    (try clear BK744)
    (try clear BK752)
    (try clear HB)
    generalize ((((w42.setCell ⟨gb752, 0, none⟩ (.int .i64 t748)).setCell ⟨gb752, 1, none⟩ (.bool t749)).setCell ⟨gb752, 2, none⟩ (.int .u64 t750)).setCell ⟨gb752, 3, none⟩ (.int .i64 t751)) = w96 at n0_ n1_ n2_ n3_ n4_ n5_ n6_ n7_ ⊢
    have HO739 := n0_
    have HO747 := n1_
    have BK731 := n2_
    have BK732 := n3_
    have BK733 := n4_
    have BK744 := n5_
    have BK752 := n6_
    have HB := n7_
    clear n0_ n1_ n2_ n3_ n4_ n5_ n6_ n7_
    replace HO739 := Aside0.mk (Kd.R_drew HO739.out)
    replace HO747 := Aside0.mk (Kd.R_drew HO747.out)
    replace BK731 := Aside0.mk (blk_drew BK731.out)
    replace BK732 := Aside0.mk (blk_drew BK732.out)
    replace BK733 := Aside0.mk (blk_drew BK733.out)
    replace BK744 := Aside0.mk (blk_drew BK744.out)
    replace BK752 := Aside0.mk (blk_drew BK752.out)
    replace HB := Aside0.mk (below_drew1 HB.out)
    refine start_ (n := 30) (S := fun w' => w'.cell? ⟨gb732, 0, none⟩ = some (.int .i64 a1_0) ∧ w'.cell? ⟨gb732, 1, none⟩ = some (.bool a1_1) ∧ w'.cell? ⟨gb732, 2, none⟩ = some (.int .u64 a1_2) ∧ w'.cell? ⟨gb732, 3, none⟩ = some (.int .i64 a1_3) ∧ w'.cell? ⟨gb731, 0, none⟩ = some (.int .i64 a0_0) ∧ w'.cell? ⟨gb731, 1, none⟩ = some (.bool a0_1) ∧ w'.cell? ⟨gb731, 2, none⟩ = some (.int .u64 a0_2) ∧ w'.cell? ⟨gb731, 3, none⟩ = some (.int .i64 a0_3)) (ds := []) #[false, false, false, false, false, false, false, false, false, false, false, false, false, false, false, false, false, false, false, false, false, false, false, false, false, false, false, false, false, false] (by kernel_rfl) rfl rfl ⟨(blk_cell BK732.out 0).trans rfl, (blk_cell BK732.out 1).trans rfl, (blk_cell BK732.out 2).trans rfl, (blk_cell BK732.out 3).trans rfl, (blk_cell BK731.out 0).trans rfl, (blk_cell BK731.out 1).trans rfl, (blk_cell BK731.out 2).trans rfl, (blk_cell BK731.out 3).trans rfl⟩ (fun hHeld => ?_); refine with_tabW peloruslaw05_NumOrder.tab6 peloruslaw05_NumOrder.bits6 (fun HT_ HW_ => ?_)
    generalize w96.drew = w97 at HO739 HO747 BK731 BK732 BK733 BK744 BK752 HB hHeld ⊢
    refine pure_ (i := 0) (N := some 30) (v := ?_) (a' := ?_) #[true, false, false, false, false, false, false, false, false, false, false, false, false, false, false, false, false, false, false, false, false, false, false, false, false, false, false, false, false, false] rfl rfl (any_of HT_.out (by kernel_rfl)) (fun _ _ _ h => h) (Or.inl ⟨by rfl, ?_⟩) ?_ ?_
    rotate_left
    ·intro w'
     go_simp
     with_reducible rfl
    rotate_left
    ·exact pt_
    refine pure_ (i := 1) (N := some 31) (v := ?_) (a' := ?_) #[true, true, false, false, false, false, false, false, false, false, false, false, false, false, false, false, false, false, false, false, false, false, false, false, false, false, false, false, false, false] rfl rfl (any_of HT_.out (by kernel_rfl)) (fun _ _ _ h => h) (Or.inl ⟨by rfl, ?_⟩) ?_ ?_
    rotate_left
    ·intro w'
     go_simp
     with_reducible rfl
    rotate_left
    ·exact pt_
    refine pure_ (i := 2) (N := some 32) (v := ?_) (a' := ?_) #[true, true, true, false, false, false, false, false, false, false, false, false, false, false, false, false, false, false, false, false, false, false, false, false, false, false, false, false, false, false] rfl rfl (any_of HT_.out (by kernel_rfl)) (fun _ _ _ h => h) (Or.inl ⟨by rfl, ?_⟩) ?_ ?_
    rotate_left
    ·intro w'
     go_simp
     with_reducible rfl
    rotate_left
    ·exact pt_
    refine pure_ (i := 3) (N := some 33) (v := undef) (a' := ?_) #[true, true, true, true, false, false, false, false, false, false, false, false, false, false, false, false, false, false, false, false, false, false, false, false, false, false, false, false, false, false] rfl rfl (any_of HT_.out (by kernel_rfl)) (fun _ _ _ h => h) (Or.inr ⟨by rfl, rfl⟩) ?_ ?_
    rotate_left
    ·exact pt_
    refine pure_ (i := 4) (N := some 34) (v := undef) (a' := ?_) #[true, true, true, true, true, false, false, false, false, false, false, false, false, false, false, false, false, false, false, false, false, false, false, false, false, false, false, false, false, false] rfl rfl (any_of HT_.out (by kernel_rfl)) (fun _ _ _ h => h) (Or.inr ⟨by rfl, rfl⟩) ?_ ?_
    rotate_left
    ·exact pt_
    refine pure_ (i := 5) (N := some 35) (v := ?_) (a' := ?_) #[true, true, true, true, true, true, false, false, false, false, false, false, false, false, false, false, false, false, false, false, false, false, false, false, false, false, false, false, false, false] rfl rfl (any_of HT_.out (by kernel_rfl)) (fun _ _ _ h => h) (Or.inl ⟨by rfl, ?_⟩) ?_ ?_
    rotate_left
    ·intro w'
     go_simp
     with_reducible rfl
    rotate_left
    ·exact pt_
    refine pure_ (i := 6) (N := some 36) (v := ?_) (a' := ?_) #[true, true, true, true, true, true, true, false, false, false, false, false, false, false, false, false, false, false, false, false, false, false, false, false, false, false, false, false, false, false] rfl rfl (any_of HT_.out (by kernel_rfl)) (fun _ _ _ h => h) (Or.inl ⟨by rfl, ?_⟩) ?_ ?_
    rotate_left
    ·intro w'
     go_simp
     with_reducible rfl
    rotate_left
    ·exact pt_
    refine pure_ (i := 7) (N := some 37) (v := undef) (a' := ?_) #[true, true, true, true, true, true, true, true, false, false, false, false, false, false, false, false, false, false, false, false, false, false, false, false, false, false, false, false, false, false] rfl rfl (any_of HT_.out (by kernel_rfl)) (fun _ _ _ h => h) (Or.inr ⟨by rfl, rfl⟩) ?_ ?_
    rotate_left
    ·exact pt_
    refine pure_ (i := 8) (N := some 38) (v := undef) (a' := ?_) #[true, true, true, true, true, true, true, true, true, false, false, false, false, false, false, false, false, false, false, false, false, false, false, false, false, false, false, false, false, false] rfl rfl (any_of HT_.out (by kernel_rfl)) (fun _ _ _ h => h) (Or.inr ⟨by rfl, rfl⟩) ?_ ?_
    rotate_left
    ·exact pt_
    refine pure_ (i := 9) (N := some 39) (v := undef) (a' := ?_) #[true, true, true, true, true, true, true, true, true, true, false, false, false, false, false, false, false, false, false, false, false, false, false, false, false, false, false, false, false, false] rfl rfl (any_of HT_.out (by kernel_rfl)) (fun _ _ _ h => h) (Or.inr ⟨by rfl, rfl⟩) ?_ ?_
    rotate_left
    ·exact pt_
    refine pure_ (i := 10) (N := some 40) (v := undef) (a' := ?_) #[true, true, true, true, true, true, true, true, true, true, true, false, false, false, false, false, false, false, false, false, false, false, false, false, false, false, false, false, false, false] rfl rfl (any_of HT_.out (by kernel_rfl)) (fun _ _ _ h => h) (Or.inr ⟨by rfl, rfl⟩) ?_ ?_
    rotate_left
    ·exact pt_
    refine pure_ (i := 11) (N := some 41) (v := ?_) (a' := ?_) #[true, true, true, true, true, true, true, true, true, true, true, true, false, false, false, false, false, false, false, false, false, false, false, false, false, false, false, false, false, false] rfl rfl (any_of HT_.out (by kernel_rfl)) (fun _ _ _ h => h) (Or.inl ⟨by rfl, ?_⟩) ?_ ?_
    rotate_left
    ·intro w'
     go_simp
     with_reducible rfl
    rotate_left
    ·exact pt_
    refine pure_ (i := 12) (N := some 42) (v := ?_) (a' := ?_) #[true, true, true, true, true, true, true, true, true, true, true, true, true, false, false, false, false, false, false, false, false, false, false, false, false, false, false, false, false, false] rfl rfl (any_of HT_.out (by kernel_rfl)) (fun _ _ _ h => h) (Or.inl ⟨by rfl, ?_⟩) ?_ ?_
    rotate_left
    ·intro w'
     go_simp
     with_reducible rfl
    rotate_left
    ·exact pt_
    refine pure_ (i := 16) (N := some 46) (v := ?_) (a' := ?_) #[true, true, true, true, true, true, true, true, true, true, true, true, true, false, false, false, true, false, false, false, false, false, false, false, false, false, false, false, false, false] rfl rfl (any_of HT_.out (by kernel_rfl)) (fun _ _ _ h => h) (Or.inl ⟨by rfl, ?_⟩) ?_ ?_
    rotate_left
    ·intro w'
     go_simp
     with_reducible rfl
    rotate_left
    ·exact pt_
    refine pure_ (i := 17) (N := some 47) (v := ?_) (a' := ?_) #[true, true, true, true, true, true, true, true, true, true, true, true, true, false, false, false, true, true, false, false, false, false, false, false, false, false, false, false, false, false] rfl rfl (any_of HT_.out (by kernel_rfl)) (fun _ _ _ h => h) (Or.inl ⟨by rfl, ?_⟩) ?_ ?_
    rotate_left
    ·intro w'
     go_simp
     with_reducible rfl
    rotate_left
    ·exact pt_
    refine take_ (i := 13) (N := some 43) (v := ?_) (a' := ?_) #[true, true, true, true, true, true, true, true, true, true, true, true, true, true, false, false, true, true, false, false, false, false, false, false, false, false, false, false, false, false] rfl rfl (take_ofW HT_.out HW_.out (by kernel_rfl)) (fun _ _ _ h => h) (Or.inl ⟨by rfl, ?_⟩) hHeld ?_ ?_
    rotate_left
    ·rintro w' ⟨s0, s1, s2, s3, s4, s5, s6, s7⟩
     go_simp
     with_reducible rfl
    rotate_left
    ·exact pt_
    refine take_ (i := 14) (N := some 44) (v := ?_) (a' := ?_) #[true, true, true, true, true, true, true, true, true, true, true, true, true, true, true, false, true, true, false, false, false, false, false, false, false, false, false, false, false, false] rfl rfl (take_ofW HT_.out HW_.out (by kernel_rfl)) (fun _ _ _ h => h) (Or.inl ⟨by rfl, ?_⟩) hHeld ?_ ?_
    rotate_left
    ·rintro w' ⟨s0, s1, s2, s3, s4, s5, s6, s7⟩
     go_simp
     with_reducible rfl
    rotate_left
    ·exact pt_
    refine one_ (i := 15) (N := some 45) #[true, true, true, true, true, true, true, true, true, true, true, true, true, true, true, true, true, true, false, false, false, false, false, false, false, false, false, false, false, false] rfl rfl (one_of HT_.out (by kernel_rfl)) (by decide) (fun K hK => ?_)
    refine gs_ Tryd.func17 #[.agg #[.int .i64 a1_0, .bool a1_1, .int .u64 a1_2, .int .i64 a1_3], .agg #[.int .i64 a0_0, .bool a0_1, .int .u64 a0_2, .int .i64 a0_3]] ?_
    with_reducible refine (num_Cmp.calls a1_0 a1_1 a1_2 a1_3 a0_0 a0_1 a0_2 a0_3 t774 _ A85.out).mono ?_
    rintro e w98 ⟨rfl, hb⟩
    refine ⟨_, rfl, ?_⟩
    replace HO739 := Aside0.mk (Kd.R_below (kr_ HO739.out) hb)
    replace HO747 := Aside0.mk (Kd.R_below (kr_ HO747.out) hb)
    replace BK731 := kq_ BK731 hb
    replace BK732 := kq_ BK732 hb
    replace BK733 := kq_ BK733 hb
    replace BK744 := kq_ BK744 hb
    replace BK752 := kq_ BK752 hb
    replace HB := bq_ HB hb
    (try clear hb)
    (try clear hb2)
    (try clear hk)
    (try clear hi)
    refine hK.out _ _ ⟨(blk_cell BK732.out 0).trans rfl, (blk_cell BK732.out 1).trans rfl, (blk_cell BK732.out 2).trans rfl, (blk_cell BK732.out 3).trans rfl, (blk_cell BK731.out 0).trans rfl, (blk_cell BK731.out 1).trans rfl, (blk_cell BK731.out 2).trans rfl, (blk_cell BK731.out 3).trans rfl⟩ (fun hHeld => ?_)
    clear hK K
    refine norm_ (a' := ?_) ?_ ?_
    rotate_left
    ·show Act.put _ (some 45) _ = _
     exact pt_
    refine pure_ (i := 18) (N := some 48) (v := ?_) (a' := ?_) #[true, true, true, true, true, true, true, true, true, true, true, true, true, true, true, true, true, true, true, false, false, false, false, false, false, false, false, false, false, false] rfl rfl (any_of HT_.out (by kernel_rfl)) (fun _ _ _ h => h) (Or.inl ⟨by rfl, ?_⟩) ?_ ?_
    rotate_left
    ·intro w'
     go_simp
     with_reducible rfl
    rotate_left
    ·exact pt_
    refine pure_ (i := 19) (N := some 49) (v := ?_) (a' := ?_) #[true, true, true, true, true, true, true, true, true, true, true, true, true, true, true, true, true, true, true, true, false, false, false, false, false, false, false, false, false, false] rfl rfl (any_of HT_.out (by kernel_rfl)) (fun _ _ _ h => h) (Or.inl ⟨by rfl, ?_⟩) ?_ ?_
    rotate_left
    ·intro w'
     go_simp
     with_reducible rfl
    rotate_left
    ·exact pt_
    refine pure_ (i := 20) (N := some 50) (v := ?_) (a' := ?_) #[true, true, true, true, true, true, true, true, true, true, true, true, true, true, true, true, true, true, true, true, true, false, false, false, false, false, false, false, false, false] rfl rfl (any_of HT_.out (by kernel_rfl)) (fun _ _ _ h => h) (Or.inl ⟨by rfl, ?_⟩) ?_ ?_
    rotate_left
    ·intro w'
     go_simp
     with_reducible rfl
    rotate_left
    ·exact pt_
    refine pure_ (i := 21) (N := some 51) (v := undef) (a' := ?_) #[true, true, true, true, true, true, true, true, true, true, true, true, true, true, true, true, true, true, true, true, true, true, false, false, false, false, false, false, false, false] rfl rfl (any_of HT_.out (by kernel_rfl)) (fun _ _ _ h => h) (Or.inr ⟨by rfl, rfl⟩) ?_ ?_
    rotate_left
    ·exact pt_
    refine pure_ (i := 22) (N := some 52) (v := undef) (a' := ?_) #[true, true, true, true, true, true, true, true, true, true, true, true, true, true, true, true, true, true, true, true, true, true, true, false, false, false, false, false, false, false] rfl rfl (any_of HT_.out (by kernel_rfl)) (fun _ _ _ h => h) (Or.inr ⟨by rfl, rfl⟩) ?_ ?_
    rotate_left
    ·exact pt_
    refine pure_ (i := 23) (N := some 53) (v := undef) (a' := ?_) #[true, true, true, true, true, true, true, true, true, true, true, true, true, true, true, true, true, true, true, true, true, true, true, true, false, false, false, false, false, false] rfl rfl (any_of HT_.out (by kernel_rfl)) (fun _ _ _ h => h) (Or.inr ⟨by rfl, rfl⟩) ?_ ?_
    rotate_left
    ·exact pt_
    refine pure_ (i := 24) (N := some 54) (v := undef) (a' := ?_) #[true, true, true, true, true, true, true, true, true, true, true, true, true, true, true, true, true, true, true, true, true, true, true, true, true, false, false, false, false, false] rfl rfl (any_of HT_.out (by kernel_rfl)) (fun _ _ _ h => h) (Or.inr ⟨by rfl, rfl⟩) ?_ ?_
    rotate_left
    ·exact pt_
    refine pure_ (i := 25) (N := some 55) (v := undef) (a' := ?_) #[true, true, true, true, true, true, true, true, true, true, true, true, true, true, true, true, true, true, true, true, true, true, true, true, true, true, false, false, false, false] rfl rfl (any_of HT_.out (by kernel_rfl)) (fun _ _ _ h => h) (Or.inr ⟨by rfl, rfl⟩) ?_ ?_
    rotate_left
    ·exact pt_
    refine pure_ (i := 26) (N := some 56) (v := undef) (a' := ?_) #[true, true, true, true, true, true, true, true, true, true, true, true, true, true, true, true, true, true, true, true, true, true, true, true, true, true, true, false, false, false] rfl rfl (any_of HT_.out (by kernel_rfl)) (fun _ _ _ h => h) (Or.inr ⟨by rfl, rfl⟩) ?_ ?_
    rotate_left
    ·exact pt_
    refine pure_ (i := 27) (N := some 57) (v := undef) (a' := ?_) #[true, true, true, true, true, true, true, true, true, true, true, true, true, true, true, true, true, true, true, true, true, true, true, true, true, true, true, true, false, false] rfl rfl (any_of HT_.out (by kernel_rfl)) (fun _ _ _ h => h) (Or.inr ⟨by rfl, rfl⟩) ?_ ?_
    rotate_left
    ·exact pt_
    refine pure_ (i := 28) (N := some 58) (v := undef) (a' := ?_) #[true, true, true, true, true, true, true, true, true, true, true, true, true, true, true, true, true, true, true, true, true, true, true, true, true, true, true, true, true, false] rfl rfl (any_of HT_.out (by kernel_rfl)) (fun _ _ _ h => h) (Or.inr ⟨by rfl, rfl⟩) ?_ ?_
    rotate_left
    ·exact pt_
    refine pure_ (i := 29) (N := some 59) (v := ?_) (a' := ?_) #[true, true, true, true, true, true, true, true, true, true, true, true, true, true, true, true, true, true, true, true, true, true, true, true, true, true, true, true, true, true] rfl rfl (any_of HT_.out (by kernel_rfl)) (fun _ _ _ h => h) (Or.inl ⟨by rfl, ?_⟩) ?_ ?_
    rotate_left
    ·intro w'
     go_simp
     with_reducible rfl
    rotate_left
    ·exact pt_
    refine done_ (done_of HT_.out (by kernel_rfl)) ?_
    try go_wp2
    go_meet
    case rel => exact ⟨_, (true), (by first | rfl | (simp; done) | (simp [*]; done)), H', ⟨by first | omega | exact Nat.le_refl _⟩, ⟨kb_ BK731.out⟩, ⟨kb_ BK732.out⟩, ⟨kb_ BK733.out⟩, ⟨kb_ BK744.out⟩, ⟨kb_ BK752.out⟩, ⟨bw_ HB.out⟩⟩
 case rest =>
  clear HC9
  try clear c1
  try clear p2
  try clear p6
  try clear c8
  try clear c16
  try clear c17
  try clear p64
  try clear c86
  try clear c86b0
  try clear c86b1
  obtain ⟨kq, x59_8, rfl, HA, HJ8, BK731, BK732, BK733, BK744, BK752, HB⟩ := hcut
  cases kq with
  | zero => exact absurd HA.out (by simp [peloruslaw05_NumOrder.j0])
  | succ kj8 =>
   have H := HA.out
   clear HA
   simp only [peloruslaw05_NumOrder.j0] at H
   by_cases c99 : x59_8 = true
   ·subst c99
    have H1 : (some false) = some r := by rw [if_pos rfl] at H; exact H
    clear H
    have H := H1
    clear H1
    exact absurd ((Option.some.inj H).trans HRT_.out) (by simp)
   ·replace c99 := Bool.eq_false_iff.mpr c99
    subst c99
    have H1 : ((num_Cmp.f t740 t741 t742 t743 a0_0 a0_1 a0_2 a0_3).bind fun t784 => (if t784 = 0 then (peloruslaw05_NumOrder.j1 kj8 t734 true a0_0 a0_1 a0_2 a0_3 a1_0 a1_1 a1_2 a1_3 a2_0 a2_1 a2_2 a2_3 t740 t741 t742 t743 t748 t749 t750 t751) else ((num_Cmp.f t740 t741 t742 t743 a1_0 a1_1 a1_2 a1_3).bind fun t785 => (if t785 = 0 then (peloruslaw05_NumOrder.j1 kj8 t734 true a0_0 a0_1 a0_2 a0_3 a1_0 a1_1 a1_2 a1_3 a2_0 a2_1 a2_2 a2_3 t740 t741 t742 t743 t748 t749 t750 t751) else ((num_Cmp.f t740 t741 t742 t743 a2_0 a2_1 a2_2 a2_3).bind fun t786 => (peloruslaw05_NumOrder.j1 kj8 t734 (t786 == 0) a0_0 a0_1 a0_2 a0_3 a1_0 a1_1 a1_2 a1_3 a2_0 a2_1 a2_2 a2_3 t740 t741 t742 t743 t748 t749 t750 t751)))))) = some r := by rw [if_neg (show ¬ (false = true) by decide)] at H; exact H
    clear H
    have H := H1
    clear H1
    have HC100 := Aside0.mk H
    clear H
    go_upto_region 8 with (fail)
    go_cut [12] (fun v12 wc => ∃ (kq : Nat) (x12_99 : Bool), v12 = .bool x12_99 ∧ Aside0 (peloruslaw05_NumOrder.j1 kq t734 x12_99 a0_0 a0_1 a0_2 a0_3 a1_0 a1_1 a1_2 a1_3 a2_0 a2_1 a2_2 a2_3 t740 t741 t742 t743 t748 t749 t750 t751 = some r) ∧ Aside0 (kq ≤ kj8) ∧ Aside0 (wc.heap[gb731]? = some (.cells #[.int .i64 a0_0, .bool a0_1, .int .u64 a0_2, .int .i64 a0_3] 30 (0, 0))) ∧ Aside0 (wc.heap[gb732]? = some (.cells #[.int .i64 a1_0, .bool a1_1, .int .u64 a1_2, .int .i64 a1_3] 30 (0, 0))) ∧ Aside0 (wc.heap[gb733]? = some (.cells #[.int .i64 a2_0, .bool a2_1, .int .u64 a2_2, .int .i64 a2_3] 30 (0, 0))) ∧ Aside0 (wc.heap[gb744]? = some (.cells #[.int .i64 t740, .bool t741, .int .u64 t742, .int .i64 t743] 30 (0, 0))) ∧ Aside0 (wc.heap[gb752]? = some (.cells #[.int .i64 t748, .bool t749, .int .u64 t750, .int .i64 t751] 30 (0, 0))) ∧ Aside0 (Below w.heap.size w wc))
    case first =>
     have H := HC100.out
     clear HC100
     replace H := Option.bind_eq_some_iff.mp H
     obtain ⟨t784, A1010, H⟩ := H
     (try dsimp only at H)
     have A101 := Aside0.mk A1010
     clear A1010
     by_cases c102 : t784 = 0
     ·rw [if_pos c102] at H
      have c102b0 : (t784 == 0) = true := beq_iff_eq.mpr c102
      have c102b1 : (t784 != 0) = false := bne_eq_false_iff_eq.mpr c102
      clear c102
      (first | rw [c102b0] | (simp only [i64_w, i32_w]; rw [c102b0]) | skip)
      have H' := Aside0.mk H
      clear H
      have hnb103 := NB744_731.out
      have hnc103 := NB731_744.out
      have hnb104 := NB744_732.out
      have hnc104 := NB732_744.out
      have hnb105 := NB744_733.out
      have hnc105 := NB733_744.out
      have hnb106 := NB744_752.out
      have hnc106 := NB752_744.out
      obtain ⟨hcz107_0, hcz107_1, hcz107_2, hcz107_3, hfz107_0, hfz107_1, hfz107_2, hfz107_3⟩ := c4_ BK744
      have hnb108 := NB731_732.out
      have hnc108 := NB732_731.out
      have hnb109 := NB731_733.out
      have hnc109 := NB733_731.out
      have hnb110 := NB731_752.out
      have hnc110 := NB752_731.out
      obtain ⟨hcz111_0, hcz111_1, hcz111_2, hcz111_3, hfz111_0, hfz111_1, hfz111_2, hfz111_3⟩ := c4_ BK731
      go_wp2_with (first | ((with_reducible refine gate_callee (f := 17) rfl ?_); refine gl_ (some 62) Tryd.func17 #[.agg #[.int .i64 t740, .bool t741, .int .u64 t742, .int .i64 t743], .agg #[.int .i64 a0_0, .bool a0_1, .int .u64 a0_2, .int .i64 a0_3]] ?_; (with_reducible refine (num_Cmp.calls t740 t741 t742 t743 a0_0 a0_1 a0_2 a0_3 t784 _ A101.out).mono ?_); rintro e w112 ⟨rfl, hb⟩; refine ⟨_, rfl, ?_⟩; replace BK731 := kq_ BK731 hb; replace BK732 := kq_ BK732 hb; replace BK733 := kq_ BK733 hb; replace BK744 := kq_ BK744 hb; replace BK752 := kq_ BK752 hb; replace HB := bq_ HB hb; (try clear hb); (try clear hb2); (try clear hk); (try clear hi)))
      go_meet
      case rel => exact ⟨_, (true), (by first | rfl | (simp; done) | (simp [*]; done)), H', ⟨by have := HJ8.out; first | omega | exact Nat.le_refl _⟩, ⟨kb_ BK731.out⟩, ⟨kb_ BK732.out⟩, ⟨kb_ BK733.out⟩, ⟨kb_ BK744.out⟩, ⟨kb_ BK752.out⟩, ⟨bw_ HB.out⟩⟩
     ·rw [if_neg c102] at H
      have c102b0 : (t784 == 0) = false := beq_eq_false_iff_ne.mpr c102
      have c102b1 : (t784 != 0) = true := bne_iff_ne.mpr c102
      (first | rw [c102b0] | (simp only [i64_w, i32_w]; rw [c102b0]) | skip)
      replace H := Option.bind_eq_some_iff.mp H
      obtain ⟨t785, A1130, H⟩ := H
      (try dsimp only at H)
      have A113 := Aside0.mk A1130
      clear A1130
      by_cases c114 : t785 = 0
      ·rw [if_pos c114] at H
       have c114b0 : (t785 == 0) = true := beq_iff_eq.mpr c114
       have c114b1 : (t785 != 0) = false := bne_eq_false_iff_eq.mpr c114
       clear c114
       have H' := Aside0.mk H
       clear H
       have hnb115 := NB744_731.out
       have hnc115 := NB731_744.out
       have hnb116 := NB744_732.out
       have hnc116 := NB732_744.out
       have hnb117 := NB744_733.out
       have hnc117 := NB733_744.out
       have hnb118 := NB744_752.out
       have hnc118 := NB752_744.out
       obtain ⟨hcz119_0, hcz119_1, hcz119_2, hcz119_3, hfz119_0, hfz119_1, hfz119_2, hfz119_3⟩ := c4_ BK744
       have hnb120 := NB731_732.out
       have hnc120 := NB732_731.out
       have hnb121 := NB731_733.out
       have hnc121 := NB733_731.out
       have hnb122 := NB731_752.out
       have hnc122 := NB752_731.out
       obtain ⟨hcz123_0, hcz123_1, hcz123_2, hcz123_3, hfz123_0, hfz123_1, hfz123_2, hfz123_3⟩ := c4_ BK731
       go_wp2_with (first | ((with_reducible refine gate_callee (f := 17) rfl ?_); refine gl_ (some 62) Tryd.func17 #[.agg #[.int .i64 t740, .bool t741, .int .u64 t742, .int .i64 t743], .agg #[.int .i64 a0_0, .bool a0_1, .int .u64 a0_2, .int .i64 a0_3]] ?_; (with_reducible refine (num_Cmp.calls t740 t741 t742 t743 a0_0 a0_1 a0_2 a0_3 t784 _ A101.out).mono ?_); rintro e w124 ⟨rfl, hb⟩; refine ⟨_, rfl, ?_⟩; replace BK731 := kq_ BK731 hb; replace BK732 := kq_ BK732 hb; replace BK733 := kq_ BK733 hb; replace BK744 := kq_ BK744 hb; replace BK752 := kq_ BK752 hb; replace HB := bq_ HB hb; (try clear hb); (try clear hb2); (try clear hk); (try clear hi); obtain ⟨hcz125_0, hcz125_1, hcz125_2, hcz125_3, hfz125_0, hfz125_1, hfz125_2, hfz125_3⟩ := c4_ BK744; have hnb126 := NB732_733.out; have hnc126 := NB733_732.out; have hnb127 := NB732_752.out; have hnc127 := NB752_732.out; obtain ⟨hcz128_0, hcz128_1, hcz128_2, hcz128_3, hfz128_0, hfz128_1, hfz128_2, hfz128_3⟩ := c4_ BK732) | (go_at_call 17; (with_reducible refine (num_Cmp.calls t740 t741 t742 t743 a1_0 a1_1 a1_2 a1_3 t785 _ A113.out).mono ?_); rintro e w129 ⟨rfl, hb⟩; replace BK731 := kq_ BK731 hb; replace BK732 := kq_ BK732 hb; replace BK733 := kq_ BK733 hb; replace BK744 := kq_ BK744 hb; replace BK752 := kq_ BK752 hb; replace HB := bq_ HB hb; (try clear hb); (try clear hb2); (try clear hk); (try clear hi)))
       go_meet
       case rel => exact ⟨_, (true), (by first | rfl | (simp; done) | (simp [*]; done)), H', ⟨by have := HJ8.out; first | omega | exact Nat.le_refl _⟩, ⟨kb_ BK731.out⟩, ⟨kb_ BK732.out⟩, ⟨kb_ BK733.out⟩, ⟨kb_ BK744.out⟩, ⟨kb_ BK752.out⟩, ⟨bw_ HB.out⟩⟩
      ·rw [if_neg c114] at H
       have c114b0 : (t785 == 0) = false := beq_eq_false_iff_ne.mpr c114
       have c114b1 : (t785 != 0) = true := bne_iff_ne.mpr c114
       replace H := Option.bind_eq_some_iff.mp H
       obtain ⟨t786, A1300, H⟩ := H
       (try dsimp only at H)
       have A130 := Aside0.mk A1300
       clear A1300
       have H' := Aside0.mk H
       clear H
       have hnb131 := NB744_731.out
       have hnc131 := NB731_744.out
       have hnb132 := NB744_732.out
       have hnc132 := NB732_744.out
       have hnb133 := NB744_733.out
       have hnc133 := NB733_744.out
       have hnb134 := NB744_752.out
       have hnc134 := NB752_744.out
       obtain ⟨hcz135_0, hcz135_1, hcz135_2, hcz135_3, hfz135_0, hfz135_1, hfz135_2, hfz135_3⟩ := c4_ BK744
       have hnb136 := NB731_732.out
       have hnc136 := NB732_731.out
       have hnb137 := NB731_733.out
       have hnc137 := NB733_731.out
       have hnb138 := NB731_752.out
       have hnc138 := NB752_731.out
       obtain ⟨hcz139_0, hcz139_1, hcz139_2, hcz139_3, hfz139_0, hfz139_1, hfz139_2, hfz139_3⟩ := c4_ BK731
       go_wp2_with (first | ((with_reducible refine gate_callee (f := 17) rfl ?_); refine gl_ (some 62) Tryd.func17 #[.agg #[.int .i64 t740, .bool t741, .int .u64 t742, .int .i64 t743], .agg #[.int .i64 a0_0, .bool a0_1, .int .u64 a0_2, .int .i64 a0_3]] ?_; (with_reducible refine (num_Cmp.calls t740 t741 t742 t743 a0_0 a0_1 a0_2 a0_3 t784 _ A101.out).mono ?_); rintro e w140 ⟨rfl, hb⟩; refine ⟨_, rfl, ?_⟩; replace BK731 := kq_ BK731 hb; replace BK732 := kq_ BK732 hb; replace BK733 := kq_ BK733 hb; replace BK744 := kq_ BK744 hb; replace BK752 := kq_ BK752 hb; replace HB := bq_ HB hb; (try clear hb); (try clear hb2); (try clear hk); (try clear hi); obtain ⟨hcz141_0, hcz141_1, hcz141_2, hcz141_3, hfz141_0, hfz141_1, hfz141_2, hfz141_3⟩ := c4_ BK744; have hnb142 := NB732_733.out; have hnc142 := NB733_732.out; have hnb143 := NB732_752.out; have hnc143 := NB752_732.out; obtain ⟨hcz144_0, hcz144_1, hcz144_2, hcz144_3, hfz144_0, hfz144_1, hfz144_2, hfz144_3⟩ := c4_ BK732) | (go_at_call 17; (with_reducible refine (num_Cmp.calls t740 t741 t742 t743 a1_0 a1_1 a1_2 a1_3 t785 _ A113.out).mono ?_); rintro e w145 ⟨rfl, hb⟩; replace BK731 := kq_ BK731 hb; replace BK732 := kq_ BK732 hb; replace BK733 := kq_ BK733 hb; replace BK744 := kq_ BK744 hb; replace BK752 := kq_ BK752 hb; replace HB := bq_ HB hb; (try clear hb); (try clear hb2); (try clear hk); (try clear hi); obtain ⟨hcz146_0, hcz146_1, hcz146_2, hcz146_3, hfz146_0, hfz146_1, hfz146_2, hfz146_3⟩ := c4_ BK744; have hnb147 := NB733_752.out; have hnc147 := NB752_733.out; obtain ⟨hcz148_0, hcz148_1, hcz148_2, hcz148_3, hfz148_0, hfz148_1, hfz148_2, hfz148_3⟩ := c4_ BK733) | (go_at_call 17; (with_reducible refine (num_Cmp.calls t740 t741 t742 t743 a2_0 a2_1 a2_2 a2_3 t786 _ A130.out).mono ?_); rintro e w149 ⟨rfl, hb⟩; replace BK731 := kq_ BK731 hb; replace BK732 := kq_ BK732 hb; replace BK733 := kq_ BK733 hb; replace BK744 := kq_ BK744 hb; replace BK752 := kq_ BK752 hb; replace HB := bq_ HB hb; (try clear hb); (try clear hb2); (try clear hk); (try clear hi)))
       go_meet
       case rel => exact ⟨_, ((t786 == 0)), (by first | rfl | (simp; done) | (simp [*]; done)), H', ⟨by have := HJ8.out; first | omega | exact Nat.le_refl _⟩, ⟨kb_ BK731.out⟩, ⟨kb_ BK732.out⟩, ⟨kb_ BK733.out⟩, ⟨kb_ BK744.out⟩, ⟨kb_ BK752.out⟩, ⟨bw_ HB.out⟩⟩
    case rest =>
     clear HC100
     try clear c1
     try clear p2
     try clear p6
     try clear c8
     try clear c9
     try clear c10
     try clear c11
     try clear c12
     try clear c13
     try clear c14
     try clear c16
     try clear c17
     try clear p64
     try clear c86
     try clear c86b0
     try clear c86b1
     try clear c99
     try clear c102
     try clear c102b0
     try clear c102b1
     try clear c103
     try clear c104
     try clear c105
     try clear c106
     try clear c108
     try clear c109
     try clear c110
     try clear c114
     try clear c114b0
     try clear c114b1
     try clear c115
     try clear c116
     try clear c117
     try clear c118
     try clear c120
     try clear c121
     try clear c122
     try clear c126
     try clear c127
     try clear c131
     try clear c132
     try clear c133
     try clear c134
     try clear c136
     try clear c137
     try clear c138
     try clear c142
     try clear c143
     try clear c147
     try clear hcz107_0 hcz107_1 hcz107_2 hcz107_3
     try clear hcz111_0 hcz111_1 hcz111_2 hcz111_3
     try clear hcz119_0 hcz119_1 hcz119_2 hcz119_3
     try clear hcz123_0 hcz123_1 hcz123_2 hcz123_3
     try clear hcz125_0 hcz125_1 hcz125_2 hcz125_3
     try clear hcz128_0 hcz128_1 hcz128_2 hcz128_3
     try clear hcz135_0 hcz135_1 hcz135_2 hcz135_3
     try clear hcz139_0 hcz139_1 hcz139_2 hcz139_3
     try clear hcz141_0 hcz141_1 hcz141_2 hcz141_3
     try clear hcz144_0 hcz144_1 hcz144_2 hcz144_3
     try clear hcz146_0 hcz146_1 hcz146_2 hcz146_3
     try clear hcz148_0 hcz148_1 hcz148_2 hcz148_3
     try clear hfz107_0 hfz107_1 hfz107_2 hfz107_3
     try clear hfz111_0 hfz111_1 hfz111_2 hfz111_3
     try clear hfz119_0 hfz119_1 hfz119_2 hfz119_3
     try clear hfz123_0 hfz123_1 hfz123_2 hfz123_3
     try clear hfz125_0 hfz125_1 hfz125_2 hfz125_3
     try clear hfz128_0 hfz128_1 hfz128_2 hfz128_3
     try clear hfz135_0 hfz135_1 hfz135_2 hfz135_3
     try clear hfz139_0 hfz139_1 hfz139_2 hfz139_3
     try clear hfz141_0 hfz141_1 hfz141_2 hfz141_3
     try clear hfz144_0 hfz144_1 hfz144_2 hfz144_3
     try clear hfz146_0 hfz146_1 hfz146_2 hfz146_3
     try clear hfz148_0 hfz148_1 hfz148_2 hfz148_3
     try clear p2
     try clear p6
     try clear p64
     obtain ⟨kq, x12_99, rfl, HA, HJ99, BK731, BK732, BK733, BK744, BK752, HB⟩ := hcut
     cases kq with
     | zero => exact absurd HA.out (by simp [peloruslaw05_NumOrder.j1])
     | succ kj99 =>
      have H := HA.out
      clear HA
      simp only [peloruslaw05_NumOrder.j1] at H
      by_cases c150 : t734 = true
      ·subst c150
       have H1 : (if x12_99 = true then ((num_Cmp.f t740 t741 t742 t743 a0_0 a0_1 a0_2 a0_3).bind fun t787 => (if t787 ≤ 0 then ((num_Cmp.f t740 t741 t742 t743 a1_0 a1_1 a1_2 a1_3).bind fun t788 => (if t788 ≤ 0 then ((num_Cmp.f t740 t741 t742 t743 a2_0 a2_1 a2_2 a2_3).bind fun t789 => (if t789 ≤ 0 then ((num_Cmp.f t748 t749 t750 t751 t740 t741 t742 t743).bind fun t790 => (if t790 ≥ 0 then ((num_Cmp.f t748 t749 t750 t751 a1_0 a1_1 a1_2 a1_3).bind fun t791 => (if t791 ≥ 0 then ((num_Neg.f t748 t749 t750 t751).bind fun bt792 => ((num_Neg.f a0_0 a0_1 a0_2 a0_3).bind fun bt796 => ((num_Neg.f a1_0 a1_1 a1_2 a1_3).bind fun bt800 => ((num_Neg.f a2_0 a2_1 a2_2 a2_3).bind fun bt804 => ((num_Least.f kj99 (([(⟨bt796.1, bt796.2.1, bt796.2.2.1, bt796.2.2.2⟩ : S30), (⟨bt800.1, bt800.2.1, bt800.2.2.1, bt800.2.2.2⟩ : S30), (⟨bt804.1, bt804.2.1, bt804.2.2.1, bt804.2.2.2⟩ : S30)] : List (S30)))).bind fun bt811 => (some (bt792.1 == bt811.1 && (bt792.2.1 == bt811.2.1 && (bt792.2.2.1 == bt811.2.2.1 && (bt792.2.2.2 == bt811.2.2.2)))))))))) else (some false))) else (some false))) else (some false))) else (some false))) else (some false))) else (some false)) = some r := by rw [if_pos rfl] at H; exact H
       clear H
       have H := H1
       clear H1
       by_cases c151 : x12_99 = true
       ·subst c151
        have H1 : ((num_Cmp.f t740 t741 t742 t743 a0_0 a0_1 a0_2 a0_3).bind fun t787 => (if t787 ≤ 0 then ((num_Cmp.f t740 t741 t742 t743 a1_0 a1_1 a1_2 a1_3).bind fun t788 => (if t788 ≤ 0 then ((num_Cmp.f t740 t741 t742 t743 a2_0 a2_1 a2_2 a2_3).bind fun t789 => (if t789 ≤ 0 then ((num_Cmp.f t748 t749 t750 t751 t740 t741 t742 t743).bind fun t790 => (if t790 ≥ 0 then ((num_Cmp.f t748 t749 t750 t751 a1_0 a1_1 a1_2 a1_3).bind fun t791 => (if t791 ≥ 0 then ((num_Neg.f t748 t749 t750 t751).bind fun bt792 => ((num_Neg.f a0_0 a0_1 a0_2 a0_3).bind fun bt796 => ((num_Neg.f a1_0 a1_1 a1_2 a1_3).bind fun bt800 => ((num_Neg.f a2_0 a2_1 a2_2 a2_3).bind fun bt804 => ((num_Least.f kj99 (([(⟨bt796.1, bt796.2.1, bt796.2.2.1, bt796.2.2.2⟩ : S30), (⟨bt800.1, bt800.2.1, bt800.2.2.1, bt800.2.2.2⟩ : S30), (⟨bt804.1, bt804.2.1, bt804.2.2.1, bt804.2.2.2⟩ : S30)] : List (S30)))).bind fun bt811 => (some (bt792.1 == bt811.1 && (bt792.2.1 == bt811.2.1 && (bt792.2.2.1 == bt811.2.2.1 && (bt792.2.2.2 == bt811.2.2.2)))))))))) else (some false))) else (some false))) else (some false))) else (some false))) else (some false))) = some r := by rw [if_pos rfl] at H; exact H
        clear H
        have H := H1
        clear H1
        replace H := Option.bind_eq_some_iff.mp H
        obtain ⟨t787, A1520, H⟩ := H
        (try dsimp only at H)
        have A152 := Aside0.mk A1520
        clear A1520
        by_cases c153 : t787 ≤ 0
        ·rw [if_pos c153] at H
         have c153b0 : decide (t787 ≤ 0) = true := decide_eq_true c153
         clear c153
         replace H := Option.bind_eq_some_iff.mp H
         obtain ⟨t788, A1540, H⟩ := H
         (try dsimp only at H)
         have A154 := Aside0.mk A1540
         clear A1540
         by_cases c155 : t788 ≤ 0
         ·rw [if_pos c155] at H
          have c155b0 : decide (t788 ≤ 0) = true := decide_eq_true c155
          clear c155
          replace H := Option.bind_eq_some_iff.mp H
          obtain ⟨t789, A1560, H⟩ := H
          (try dsimp only at H)
          have A156 := Aside0.mk A1560
          clear A1560
          by_cases c157 : t789 ≤ 0
          ·rw [if_pos c157] at H
           have c157b0 : decide (t789 ≤ 0) = true := decide_eq_true c157
           clear c157
           replace H := Option.bind_eq_some_iff.mp H
           obtain ⟨t790, A1580, H⟩ := H
           (try dsimp only at H)
           have A158 := Aside0.mk A1580
           clear A1580
           by_cases c159 : t790 ≥ 0
           ·rw [if_pos c159] at H
            have c159b0 : decide (0 ≤ t790) = true := decide_eq_true c159
            clear c159
            replace H := Option.bind_eq_some_iff.mp H
            obtain ⟨t791, A1600, H⟩ := H
            (try dsimp only at H)
            have A160 := Aside0.mk A1600
            clear A1600
            by_cases c161 : t791 ≥ 0
            ·rw [if_pos c161] at H
             have c161b0 : decide (0 ≤ t791) = true := decide_eq_true c161
             clear c161
             replace H := Option.bind_eq_some_iff.mp H
             obtain ⟨⟨t792, t793, t794, t795⟩, A1620, H⟩ := H
             (try dsimp only at H)
             have A162 := Aside0.mk A1620
             clear A1620
             replace H := Option.bind_eq_some_iff.mp H
             obtain ⟨⟨t796, t797, t798, t799⟩, A1630, H⟩ := H
             (try dsimp only at H)
             have A163 := Aside0.mk A1630
             clear A1630
             replace H := Option.bind_eq_some_iff.mp H
             obtain ⟨⟨t800, t801, t802, t803⟩, A1640, H⟩ := H
             (try dsimp only at H)
             have A164 := Aside0.mk A1640
             clear A1640
             replace H := Option.bind_eq_some_iff.mp H
             obtain ⟨⟨t804, t805, t806, t807⟩, A1650, H⟩ := H
             (try dsimp only at H)
             have A165 := Aside0.mk A1650
             clear A1650
             obtain ⟨y808, hy808⟩ : ∃ y_ : List (S30), y_ = (([(⟨t796, t797, t798, t799⟩ : S30), (⟨t800, t801, t802, t803⟩ : S30), (⟨t804, t805, t806, t807⟩ : S30)] : List (S30))) := ⟨_, rfl⟩
             replace H : ((num_Least.f kj99 y808).bind fun bt811 => (some (t792 == bt811.1 && (t793 == bt811.2.1 && (t794 == bt811.2.2.1 && (t795 == bt811.2.2.2)))))) = some r := by first | (rw [hy808]; with_reducible exact H) | (have H2_ := (Option.bind_some _ _).symm.trans H; rw [hy808]; with_reducible exact H2_) | (have H2_ := (Option.bind_some _ _).symm.trans H; with_reducible exact H2_) | with_reducible exact H | (rw [hy808]; exact H) | exact H
             have Ny808 := Aside0.mk hy808
             clear hy808
             replace H := Option.bind_eq_some_iff.mp H
             obtain ⟨⟨t811, t812, t813, t814⟩, A1660, H⟩ := H
             (try dsimp only at H)
             have A166 := Aside0.mk A1660
             clear A1660
             obtain rfl := Option.some.inj H
             try go_wp2
             replace BK731 := Aside0.mk (blk_drew BK731.out)
             replace BK732 := Aside0.mk (blk_drew BK732.out)
             replace BK733 := Aside0.mk (blk_drew BK733.out)
             replace BK744 := Aside0.mk (blk_drew BK744.out)
             replace BK752 := Aside0.mk (blk_drew BK752.out)
             replace HB := Aside0.mk (below_drew1 HB.out)
             refine start_ (n := 48) (S := fun w' => w'.cell? ⟨gb744, 0, none⟩ = some (.int .i64 t740) ∧ w'.cell? ⟨gb744, 1, none⟩ = some (.bool t741) ∧ w'.cell? ⟨gb744, 2, none⟩ = some (.int .u64 t742) ∧ w'.cell? ⟨gb744, 3, none⟩ = some (.int .i64 t743) ∧ w'.cell? ⟨gb731, 0, none⟩ = some (.int .i64 a0_0) ∧ w'.cell? ⟨gb731, 1, none⟩ = some (.bool a0_1) ∧ w'.cell? ⟨gb731, 2, none⟩ = some (.int .u64 a0_2) ∧ w'.cell? ⟨gb731, 3, none⟩ = some (.int .i64 a0_3) ∧ w'.cell? ⟨gb732, 0, none⟩ = some (.int .i64 a1_0) ∧ w'.cell? ⟨gb732, 1, none⟩ = some (.bool a1_1) ∧ w'.cell? ⟨gb732, 2, none⟩ = some (.int .u64 a1_2) ∧ w'.cell? ⟨gb732, 3, none⟩ = some (.int .i64 a1_3) ∧ w'.cell? ⟨gb733, 0, none⟩ = some (.int .i64 a2_0) ∧ w'.cell? ⟨gb733, 1, none⟩ = some (.bool a2_1) ∧ w'.cell? ⟨gb733, 2, none⟩ = some (.int .u64 a2_2) ∧ w'.cell? ⟨gb733, 3, none⟩ = some (.int .i64 a2_3) ∧ w'.cell? ⟨gb752, 0, none⟩ = some (.int .i64 t748) ∧ w'.cell? ⟨gb752, 1, none⟩ = some (.bool t749) ∧ w'.cell? ⟨gb752, 2, none⟩ = some (.int .u64 t750) ∧ w'.cell? ⟨gb752, 3, none⟩ = some (.int .i64 t751)) (ds := []) #[false, false, false, false, false, false, false, false, false, false, false, false, false, false, false, false, false, false, false, false, false, false, false, false, false, false, false, false, false, false, false, false, false, false, false, false, false, false, false, false, false, false, false, false, false, false, false, false] (by kernel_rfl) rfl rfl ⟨(blk_cell BK744.out 0).trans rfl, (blk_cell BK744.out 1).trans rfl, (blk_cell BK744.out 2).trans rfl, (blk_cell BK744.out 3).trans rfl, (blk_cell BK731.out 0).trans rfl, (blk_cell BK731.out 1).trans rfl, (blk_cell BK731.out 2).trans rfl, (blk_cell BK731.out 3).trans rfl, (blk_cell BK732.out 0).trans rfl, (blk_cell BK732.out 1).trans rfl, (blk_cell BK732.out 2).trans rfl, (blk_cell BK732.out 3).trans rfl, (blk_cell BK733.out 0).trans rfl, (blk_cell BK733.out 1).trans rfl, (blk_cell BK733.out 2).trans rfl, (blk_cell BK733.out 3).trans rfl, (blk_cell BK752.out 0).trans rfl, (blk_cell BK752.out 1).trans rfl, (blk_cell BK752.out 2).trans rfl, (blk_cell BK752.out 3).trans rfl⟩ (fun hHeld => ?_); refine with_tabW peloruslaw05_NumOrder.tab9 peloruslaw05_NumOrder.bits9 (fun HT_ HW_ => ?_)
             generalize wc.drew = w167 at BK731 BK732 BK733 BK744 BK752 HB hHeld ⊢
             refine pure_ (i := 0) (N := some 76) (v := ?_) (a' := ?_) #[true, false, false, false, false, false, false, false, false, false, false, false, false, false, false, false, false, false, false, false, false, false, false, false, false, false, false, false, false, false, false, false, false, false, false, false, false, false, false, false, false, false, false, false, false, false, false, false] rfl rfl (any_of HT_.out (by kernel_rfl)) (fun _ _ _ h => h) (Or.inl ⟨by rfl, ?_⟩) ?_ ?_
             rotate_left
             ·intro w'
              go_simp
              with_reducible rfl
             rotate_left
             ·exact pt_
             refine pure_ (i := 1) (N := some 77) (v := ?_) (a' := ?_) #[true, true, false, false, false, false, false, false, false, false, false, false, false, false, false, false, false, false, false, false, false, false, false, false, false, false, false, false, false, false, false, false, false, false, false, false, false, false, false, false, false, false, false, false, false, false, false, false] rfl rfl (any_of HT_.out (by kernel_rfl)) (fun _ _ _ h => h) (Or.inl ⟨by rfl, ?_⟩) ?_ ?_
             rotate_left
             ·intro w'
              go_simp
              with_reducible rfl
             rotate_left
             ·exact pt_
             refine pure_ (i := 2) (N := some 78) (v := ?_) (a' := ?_) #[true, true, true, false, false, false, false, false, false, false, false, false, false, false, false, false, false, false, false, false, false, false, false, false, false, false, false, false, false, false, false, false, false, false, false, false, false, false, false, false, false, false, false, false, false, false, false, false] rfl rfl (any_of HT_.out (by kernel_rfl)) (fun _ _ _ h => h) (Or.inl ⟨by rfl, ?_⟩) ?_ ?_
             rotate_left
             ·intro w'
              go_simp
              with_reducible rfl
             rotate_left
             ·exact pt_
             refine pure_ (i := 3) (N := some 79) (v := ?_) (a' := ?_) #[true, true, true, true, false, false, false, false, false, false, false, false, false, false, false, false, false, false, false, false, false, false, false, false, false, false, false, false, false, false, false, false, false, false, false, false, false, false, false, false, false, false, false, false, false, false, false, false] rfl rfl (any_of HT_.out (by kernel_rfl)) (fun _ _ _ h => h) (Or.inl ⟨by rfl, ?_⟩) ?_ ?_
             rotate_left
             ·intro w'
              go_simp
              with_reducible rfl
             rotate_left
             ·exact pt_
             refine pure_ (i := 4) (N := some 80) (v := ?_) (a' := ?_) #[true, true, true, true, true, false, false, false, false, false, false, false, false, false, false, false, false, false, false, false, false, false, false, false, false, false, false, false, false, false, false, false, false, false, false, false, false, false, false, false, false, false, false, false, false, false, false, false] rfl rfl (any_of HT_.out (by kernel_rfl)) (fun _ _ _ h => h) (Or.inl ⟨by rfl, ?_⟩) ?_ ?_
             rotate_left
             ·intro w'
              go_simp
              with_reducible rfl
             rotate_left
             ·exact pt_
             refine take_ (i := 5) (N := some 81) (v := ?_) (a' := ?_) #[true, true, true, true, true, true, false, false, false, false, false, false, false, false, false, false, false, false, false, false, false, false, false, false, false, false, false, false, false, false, false, false, false, false, false, false, false, false, false, false, false, false, false, false, false, false, false, false] rfl rfl (take_ofW HT_.out HW_.out (by kernel_rfl)) (fun _ _ _ h => h) (Or.inl ⟨by rfl, ?_⟩) hHeld ?_ ?_
             rotate_left
             ·rintro w' ⟨s0, s1, s2, s3, s4, s5, s6, s7, s8, s9, s10, s11, s12, s13, s14, s15, s16, s17, s18, s19⟩
              go_simp
              with_reducible rfl
             rotate_left
             ·exact pt_
             refine take_ (i := 6) (N := some 82) (v := ?_) (a' := ?_) #[true, true, true, true, true, true, true, false, false, false, false, false, false, false, false, false, false, false, false, false, false, false, false, false, false, false, false, false, false, false, false, false, false, false, false, false, false, false, false, false, false, false, false, false, false, false, false, false] rfl rfl (take_ofW HT_.out HW_.out (by kernel_rfl)) (fun _ _ _ h => h) (Or.inl ⟨by rfl, ?_⟩) hHeld ?_ ?_
             rotate_left
             ·rintro w' ⟨s0, s1, s2, s3, s4, s5, s6, s7, s8, s9, s10, s11, s12, s13, s14, s15, s16, s17, s18, s19⟩
              go_simp
              with_reducible rfl
             rotate_left
             ·exact pt_
             refine one_ (i := 7) (N := some 83) #[true, true, true, true, true, true, true, true, false, false, false, false, false, false, false, false, false, false, false, false, false, false, false, false, false, false, false, false, false, false, false, false, false, false, false, false, false, false, false, false, false, false, false, false, false, false, false, false] rfl rfl (one_of HT_.out (by kernel_rfl)) (by decide) (fun K hK => ?_)
             refine gs_ Tryd.func17 #[.agg #[.int .i64 t740, .bool t741, .int .u64 t742, .int .i64 t743], .agg #[.int .i64 a0_0, .bool a0_1, .int .u64 a0_2, .int .i64 a0_3]] ?_
             with_reducible refine (num_Cmp.calls t740 t741 t742 t743 a0_0 a0_1 a0_2 a0_3 t787 _ A152.out).mono ?_
             rintro e w168 ⟨rfl, hb⟩
             refine ⟨_, rfl, ?_⟩
             replace BK731 := kq_ BK731 hb
             replace BK732 := kq_ BK732 hb
             replace BK733 := kq_ BK733 hb
             replace BK744 := kq_ BK744 hb
             replace BK752 := kq_ BK752 hb
             replace HB := bq_ HB hb
             (try clear hb)
             (try clear hb2)
             (try clear hk)
             (try clear hi)
             refine hK.out _ _ ⟨(blk_cell BK744.out 0).trans rfl, (blk_cell BK744.out 1).trans rfl, (blk_cell BK744.out 2).trans rfl, (blk_cell BK744.out 3).trans rfl, (blk_cell BK731.out 0).trans rfl, (blk_cell BK731.out 1).trans rfl, (blk_cell BK731.out 2).trans rfl, (blk_cell BK731.out 3).trans rfl, (blk_cell BK732.out 0).trans rfl, (blk_cell BK732.out 1).trans rfl, (blk_cell BK732.out 2).trans rfl, (blk_cell BK732.out 3).trans rfl, (blk_cell BK733.out 0).trans rfl, (blk_cell BK733.out 1).trans rfl, (blk_cell BK733.out 2).trans rfl, (blk_cell BK733.out 3).trans rfl, (blk_cell BK752.out 0).trans rfl, (blk_cell BK752.out 1).trans rfl, (blk_cell BK752.out 2).trans rfl, (blk_cell BK752.out 3).trans rfl⟩ (fun hHeld => ?_)
             clear hK K
             refine norm_ (a' := ?_) ?_ ?_
             rotate_left
             ·show Act.put _ (some 83) _ = _
              exact pt_
             refine pure_ (i := 8) (N := some 84) (v := ?_) (a' := ?_) #[true, true, true, true, true, true, true, true, true, false, false, false, false, false, false, false, false, false, false, false, false, false, false, false, false, false, false, false, false, false, false, false, false, false, false, false, false, false, false, false, false, false, false, false, false, false, false, false] rfl rfl (any_of HT_.out (by kernel_rfl)) (fun _ _ _ h => h) (Or.inl ⟨by rfl, ?_⟩) ?_ ?_
             rotate_left
             ·intro w'
              go_simp
              with_reducible rfl
             rotate_left
             ·exact pt_
             refine pure_ (i := 9) (N := some 85) (v := ?_) (a' := ?_) #[true, true, true, true, true, true, true, true, true, true, false, false, false, false, false, false, false, false, false, false, false, false, false, false, false, false, false, false, false, false, false, false, false, false, false, false, false, false, false, false, false, false, false, false, false, false, false, false] rfl rfl (any_of HT_.out (by kernel_rfl)) (fun _ _ _ h => h) (Or.inl ⟨by rfl, ?_⟩) ?_ ?_
             rotate_left
             ·intro w'
              go_simp
              with_reducible rfl
             rotate_left
             ·exact pt_
             refine pure_ (i := 10) (N := some 86) (v := ?_) (a' := ?_) #[true, true, true, true, true, true, true, true, true, true, true, false, false, false, false, false, false, false, false, false, false, false, false, false, false, false, false, false, false, false, false, false, false, false, false, false, false, false, false, false, false, false, false, false, false, false, false, false] rfl rfl (any_of HT_.out (by kernel_rfl)) (fun _ _ _ h => h) (Or.inl ⟨by rfl, ?_⟩) ?_ ?_
             rotate_left
             ·intro w'
              go_simp
              with_reducible rfl
             rotate_left
             ·exact pt_
             refine take_ (i := 11) (N := some 87) (v := ?_) (a' := ?_) #[true, true, true, true, true, true, true, true, true, true, true, true, false, false, false, false, false, false, false, false, false, false, false, false, false, false, false, false, false, false, false, false, false, false, false, false, false, false, false, false, false, false, false, false, false, false, false, false] rfl rfl (take_ofW HT_.out HW_.out (by kernel_rfl)) (fun _ _ _ h => h) (Or.inl ⟨by rfl, ?_⟩) hHeld ?_ ?_
             rotate_left
             ·rintro w' ⟨s0, s1, s2, s3, s4, s5, s6, s7, s8, s9, s10, s11, s12, s13, s14, s15, s16, s17, s18, s19⟩
              go_simp
              with_reducible rfl
             rotate_left
             ·exact pt_
             refine take_ (i := 12) (N := some 88) (v := ?_) (a' := ?_) #[true, true, true, true, true, true, true, true, true, true, true, true, true, false, false, false, false, false, false, false, false, false, false, false, false, false, false, false, false, false, false, false, false, false, false, false, false, false, false, false, false, false, false, false, false, false, false, false] rfl rfl (take_ofW HT_.out HW_.out (by kernel_rfl)) (fun _ _ _ h => h) (Or.inl ⟨by rfl, ?_⟩) hHeld ?_ ?_
             rotate_left
             ·rintro w' ⟨s0, s1, s2, s3, s4, s5, s6, s7, s8, s9, s10, s11, s12, s13, s14, s15, s16, s17, s18, s19⟩
              go_simp
              with_reducible rfl
             rotate_left
             ·exact pt_
             refine one_ (i := 13) (N := some 89) #[true, true, true, true, true, true, true, true, true, true, true, true, true, true, false, false, false, false, false, false, false, false, false, false, false, false, false, false, false, false, false, false, false, false, false, false, false, false, false, false, false, false, false, false, false, false, false, false] rfl rfl (one_of HT_.out (by kernel_rfl)) (by decide) (fun K hK => ?_)
             refine gs_ Tryd.func17 #[.agg #[.int .i64 t740, .bool t741, .int .u64 t742, .int .i64 t743], .agg #[.int .i64 a1_0, .bool a1_1, .int .u64 a1_2, .int .i64 a1_3]] ?_
             with_reducible refine (num_Cmp.calls t740 t741 t742 t743 a1_0 a1_1 a1_2 a1_3 t788 _ A154.out).mono ?_
             rintro e w169 ⟨rfl, hb⟩
             refine ⟨_, rfl, ?_⟩
             replace BK731 := kq_ BK731 hb
             replace BK732 := kq_ BK732 hb
             replace BK733 := kq_ BK733 hb
             replace BK744 := kq_ BK744 hb
             replace BK752 := kq_ BK752 hb
             replace HB := bq_ HB hb
             (try clear hb)
             (try clear hb2)
             (try clear hk)
             (try clear hi)
             refine hK.out _ _ ⟨(blk_cell BK744.out 0).trans rfl, (blk_cell BK744.out 1).trans rfl, (blk_cell BK744.out 2).trans rfl, (blk_cell BK744.out 3).trans rfl, (blk_cell BK731.out 0).trans rfl, (blk_cell BK731.out 1).trans rfl, (blk_cell BK731.out 2).trans rfl, (blk_cell BK731.out 3).trans rfl, (blk_cell BK732.out 0).trans rfl, (blk_cell BK732.out 1).trans rfl, (blk_cell BK732.out 2).trans rfl, (blk_cell BK732.out 3).trans rfl, (blk_cell BK733.out 0).trans rfl, (blk_cell BK733.out 1).trans rfl, (blk_cell BK733.out 2).trans rfl, (blk_cell BK733.out 3).trans rfl, (blk_cell BK752.out 0).trans rfl, (blk_cell BK752.out 1).trans rfl, (blk_cell BK752.out 2).trans rfl, (blk_cell BK752.out 3).trans rfl⟩ (fun hHeld => ?_)
             clear hK K
             refine norm_ (a' := ?_) ?_ ?_
             rotate_left
             ·show Act.put _ (some 89) _ = _
              exact pt_
             refine pure_ (i := 14) (N := some 90) (v := ?_) (a' := ?_) #[true, true, true, true, true, true, true, true, true, true, true, true, true, true, true, false, false, false, false, false, false, false, false, false, false, false, false, false, false, false, false, false, false, false, false, false, false, false, false, false, false, false, false, false, false, false, false, false] rfl rfl (any_of HT_.out (by kernel_rfl)) (fun _ _ _ h => h) (Or.inl ⟨by rfl, ?_⟩) ?_ ?_
             rotate_left
             ·intro w'
              go_simp
              with_reducible rfl
             rotate_left
             ·exact pt_
             refine pure_ (i := 15) (N := some 91) (v := ?_) (a' := ?_) #[true, true, true, true, true, true, true, true, true, true, true, true, true, true, true, true, false, false, false, false, false, false, false, false, false, false, false, false, false, false, false, false, false, false, false, false, false, false, false, false, false, false, false, false, false, false, false, false] rfl rfl (any_of HT_.out (by kernel_rfl)) (fun _ _ _ h => h) (Or.inl ⟨by rfl, ?_⟩) ?_ ?_
             rotate_left
             ·intro w'
              go_simp
              with_reducible rfl
             rotate_left
             ·exact pt_
             refine pure_ (i := 16) (N := some 92) (v := ?_) (a' := ?_) #[true, true, true, true, true, true, true, true, true, true, true, true, true, true, true, true, true, false, false, false, false, false, false, false, false, false, false, false, false, false, false, false, false, false, false, false, false, false, false, false, false, false, false, false, false, false, false, false] rfl rfl (any_of HT_.out (by kernel_rfl)) (fun _ _ _ h => h) (Or.inl ⟨by rfl, ?_⟩) ?_ ?_
             rotate_left
             ·intro w'
              go_simp
              with_reducible rfl
             rotate_left
             ·exact pt_
             refine take_ (i := 17) (N := some 93) (v := ?_) (a' := ?_) #[true, true, true, true, true, true, true, true, true, true, true, true, true, true, true, true, true, true, false, false, false, false, false, false, false, false, false, false, false, false, false, false, false, false, false, false, false, false, false, false, false, false, false, false, false, false, false, false] rfl rfl (take_ofW HT_.out HW_.out (by kernel_rfl)) (fun _ _ _ h => h) (Or.inl ⟨by rfl, ?_⟩) hHeld ?_ ?_
             rotate_left
             ·rintro w' ⟨s0, s1, s2, s3, s4, s5, s6, s7, s8, s9, s10, s11, s12, s13, s14, s15, s16, s17, s18, s19⟩
              go_simp
              with_reducible rfl
             rotate_left
             ·exact pt_
             refine take_ (i := 18) (N := some 94) (v := ?_) (a' := ?_) #[true, true, true, true, true, true, true, true, true, true, true, true, true, true, true, true, true, true, true, false, false, false, false, false, false, false, false, false, false, false, false, false, false, false, false, false, false, false, false, false, false, false, false, false, false, false, false, false] rfl rfl (take_ofW HT_.out HW_.out (by kernel_rfl)) (fun _ _ _ h => h) (Or.inl ⟨by rfl, ?_⟩) hHeld ?_ ?_
             rotate_left
             ·rintro w' ⟨s0, s1, s2, s3, s4, s5, s6, s7, s8, s9, s10, s11, s12, s13, s14, s15, s16, s17, s18, s19⟩
              go_simp
              with_reducible rfl
             rotate_left
             ·exact pt_
             refine one_ (i := 19) (N := some 95) #[true, true, true, true, true, true, true, true, true, true, true, true, true, true, true, true, true, true, true, true, false, false, false, false, false, false, false, false, false, false, false, false, false, false, false, false, false, false, false, false, false, false, false, false, false, false, false, false] rfl rfl (one_of HT_.out (by kernel_rfl)) (by decide) (fun K hK => ?_)
             refine gs_ Tryd.func17 #[.agg #[.int .i64 t740, .bool t741, .int .u64 t742, .int .i64 t743], .agg #[.int .i64 a2_0, .bool a2_1, .int .u64 a2_2, .int .i64 a2_3]] ?_
             with_reducible refine (num_Cmp.calls t740 t741 t742 t743 a2_0 a2_1 a2_2 a2_3 t789 _ A156.out).mono ?_
             rintro e w170 ⟨rfl, hb⟩
             refine ⟨_, rfl, ?_⟩
             replace BK731 := kq_ BK731 hb
             replace BK732 := kq_ BK732 hb
             replace BK733 := kq_ BK733 hb
             replace BK744 := kq_ BK744 hb
             replace BK752 := kq_ BK752 hb
             replace HB := bq_ HB hb
             (try clear hb)
             (try clear hb2)
             (try clear hk)
             (try clear hi)
             refine hK.out _ _ ⟨(blk_cell BK744.out 0).trans rfl, (blk_cell BK744.out 1).trans rfl, (blk_cell BK744.out 2).trans rfl, (blk_cell BK744.out 3).trans rfl, (blk_cell BK731.out 0).trans rfl, (blk_cell BK731.out 1).trans rfl, (blk_cell BK731.out 2).trans rfl, (blk_cell BK731.out 3).trans rfl, (blk_cell BK732.out 0).trans rfl, (blk_cell BK732.out 1).trans rfl, (blk_cell BK732.out 2).trans rfl, (blk_cell BK732.out 3).trans rfl, (blk_cell BK733.out 0).trans rfl, (blk_cell BK733.out 1).trans rfl, (blk_cell BK733.out 2).trans rfl, (blk_cell BK733.out 3).trans rfl, (blk_cell BK752.out 0).trans rfl, (blk_cell BK752.out 1).trans rfl, (blk_cell BK752.out 2).trans rfl, (blk_cell BK752.out 3).trans rfl⟩ (fun hHeld => ?_)
             clear hK K
             refine norm_ (a' := ?_) ?_ ?_
             rotate_left
             ·show Act.put _ (some 95) _ = _
              exact pt_
             refine pure_ (i := 20) (N := some 96) (v := ?_) (a' := ?_) #[true, true, true, true, true, true, true, true, true, true, true, true, true, true, true, true, true, true, true, true, true, false, false, false, false, false, false, false, false, false, false, false, false, false, false, false, false, false, false, false, false, false, false, false, false, false, false, false] rfl rfl (any_of HT_.out (by kernel_rfl)) (fun _ _ _ h => h) (Or.inl ⟨by rfl, ?_⟩) ?_ ?_
             rotate_left
             ·intro w'
              go_simp
              with_reducible rfl
             rotate_left
             ·exact pt_
             refine pure_ (i := 21) (N := some 97) (v := ?_) (a' := ?_) #[true, true, true, true, true, true, true, true, true, true, true, true, true, true, true, true, true, true, true, true, true, true, false, false, false, false, false, false, false, false, false, false, false, false, false, false, false, false, false, false, false, false, false, false, false, false, false, false] rfl rfl (any_of HT_.out (by kernel_rfl)) (fun _ _ _ h => h) (Or.inl ⟨by rfl, ?_⟩) ?_ ?_
             rotate_left
             ·intro w'
              go_simp
              with_reducible rfl
             rotate_left
             ·exact pt_
             refine pure_ (i := 22) (N := some 98) (v := ?_) (a' := ?_) #[true, true, true, true, true, true, true, true, true, true, true, true, true, true, true, true, true, true, true, true, true, true, true, false, false, false, false, false, false, false, false, false, false, false, false, false, false, false, false, false, false, false, false, false, false, false, false, false] rfl rfl (any_of HT_.out (by kernel_rfl)) (fun _ _ _ h => h) (Or.inl ⟨by rfl, ?_⟩) ?_ ?_
             rotate_left
             ·intro w'
              go_simp
              with_reducible rfl
             rotate_left
             ·exact pt_
             refine take_ (i := 23) (N := some 99) (v := ?_) (a' := ?_) #[true, true, true, true, true, true, true, true, true, true, true, true, true, true, true, true, true, true, true, true, true, true, true, true, false, false, false, false, false, false, false, false, false, false, false, false, false, false, false, false, false, false, false, false, false, false, false, false] rfl rfl (take_ofW HT_.out HW_.out (by kernel_rfl)) (fun _ _ _ h => h) (Or.inl ⟨by rfl, ?_⟩) hHeld ?_ ?_
             rotate_left
             ·rintro w' ⟨s0, s1, s2, s3, s4, s5, s6, s7, s8, s9, s10, s11, s12, s13, s14, s15, s16, s17, s18, s19⟩
              go_simp
              with_reducible rfl
             rotate_left
             ·exact pt_
             refine take_ (i := 24) (N := some 100) (v := ?_) (a' := ?_) #[true, true, true, true, true, true, true, true, true, true, true, true, true, true, true, true, true, true, true, true, true, true, true, true, true, false, false, false, false, false, false, false, false, false, false, false, false, false, false, false, false, false, false, false, false, false, false, false] rfl rfl (take_ofW HT_.out HW_.out (by kernel_rfl)) (fun _ _ _ h => h) (Or.inl ⟨by rfl, ?_⟩) hHeld ?_ ?_
             rotate_left
             ·rintro w' ⟨s0, s1, s2, s3, s4, s5, s6, s7, s8, s9, s10, s11, s12, s13, s14, s15, s16, s17, s18, s19⟩
              go_simp
              with_reducible rfl
             rotate_left
             ·exact pt_
             refine one_ (i := 25) (N := some 101) #[true, true, true, true, true, true, true, true, true, true, true, true, true, true, true, true, true, true, true, true, true, true, true, true, true, true, false, false, false, false, false, false, false, false, false, false, false, false, false, false, false, false, false, false, false, false, false, false] rfl rfl (one_of HT_.out (by kernel_rfl)) (by decide) (fun K hK => ?_)
             refine gs_ Tryd.func17 #[.agg #[.int .i64 t748, .bool t749, .int .u64 t750, .int .i64 t751], .agg #[.int .i64 t740, .bool t741, .int .u64 t742, .int .i64 t743]] ?_
             with_reducible refine (num_Cmp.calls t748 t749 t750 t751 t740 t741 t742 t743 t790 _ A158.out).mono ?_
             rintro e w171 ⟨rfl, hb⟩
             refine ⟨_, rfl, ?_⟩
             replace BK731 := kq_ BK731 hb
             replace BK732 := kq_ BK732 hb
             replace BK733 := kq_ BK733 hb
             replace BK744 := kq_ BK744 hb
             replace BK752 := kq_ BK752 hb
             replace HB := bq_ HB hb
             (try clear hb)
             (try clear hb2)
             (try clear hk)
             (try clear hi)
             refine hK.out _ _ ⟨(blk_cell BK744.out 0).trans rfl, (blk_cell BK744.out 1).trans rfl, (blk_cell BK744.out 2).trans rfl, (blk_cell BK744.out 3).trans rfl, (blk_cell BK731.out 0).trans rfl, (blk_cell BK731.out 1).trans rfl, (blk_cell BK731.out 2).trans rfl, (blk_cell BK731.out 3).trans rfl, (blk_cell BK732.out 0).trans rfl, (blk_cell BK732.out 1).trans rfl, (blk_cell BK732.out 2).trans rfl, (blk_cell BK732.out 3).trans rfl, (blk_cell BK733.out 0).trans rfl, (blk_cell BK733.out 1).trans rfl, (blk_cell BK733.out 2).trans rfl, (blk_cell BK733.out 3).trans rfl, (blk_cell BK752.out 0).trans rfl, (blk_cell BK752.out 1).trans rfl, (blk_cell BK752.out 2).trans rfl, (blk_cell BK752.out 3).trans rfl⟩ (fun hHeld => ?_)
             clear hK K
             refine norm_ (a' := ?_) ?_ ?_
             rotate_left
             ·show Act.put _ (some 101) _ = _
              exact pt_
             refine pure_ (i := 26) (N := some 102) (v := ?_) (a' := ?_) #[true, true, true, true, true, true, true, true, true, true, true, true, true, true, true, true, true, true, true, true, true, true, true, true, true, true, true, false, false, false, false, false, false, false, false, false, false, false, false, false, false, false, false, false, false, false, false, false] rfl rfl (any_of HT_.out (by kernel_rfl)) (fun _ _ _ h => h) (Or.inl ⟨by rfl, ?_⟩) ?_ ?_
             rotate_left
             ·intro w'
              go_simp
              with_reducible rfl
             rotate_left
             ·exact pt_
             refine pure_ (i := 27) (N := some 103) (v := ?_) (a' := ?_) #[true, true, true, true, true, true, true, true, true, true, true, true, true, true, true, true, true, true, true, true, true, true, true, true, true, true, true, true, false, false, false, false, false, false, false, false, false, false, false, false, false, false, false, false, false, false, false, false] rfl rfl (any_of HT_.out (by kernel_rfl)) (fun _ _ _ h => h) (Or.inl ⟨by rfl, ?_⟩) ?_ ?_
             rotate_left
             ·intro w'
              go_simp
              with_reducible rfl
             rotate_left
             ·exact pt_
             refine pure_ (i := 28) (N := some 104) (v := ?_) (a' := ?_) #[true, true, true, true, true, true, true, true, true, true, true, true, true, true, true, true, true, true, true, true, true, true, true, true, true, true, true, true, true, false, false, false, false, false, false, false, false, false, false, false, false, false, false, false, false, false, false, false] rfl rfl (any_of HT_.out (by kernel_rfl)) (fun _ _ _ h => h) (Or.inl ⟨by rfl, ?_⟩) ?_ ?_
             rotate_left
             ·intro w'
              go_simp
              with_reducible rfl
             rotate_left
             ·exact pt_
             refine take_ (i := 29) (N := some 105) (v := ?_) (a' := ?_) #[true, true, true, true, true, true, true, true, true, true, true, true, true, true, true, true, true, true, true, true, true, true, true, true, true, true, true, true, true, true, false, false, false, false, false, false, false, false, false, false, false, false, false, false, false, false, false, false] rfl rfl (take_ofW HT_.out HW_.out (by kernel_rfl)) (fun _ _ _ h => h) (Or.inl ⟨by rfl, ?_⟩) hHeld ?_ ?_
             rotate_left
             ·rintro w' ⟨s0, s1, s2, s3, s4, s5, s6, s7, s8, s9, s10, s11, s12, s13, s14, s15, s16, s17, s18, s19⟩
              go_simp
              with_reducible rfl
             rotate_left
             ·exact pt_
             refine take_ (i := 30) (N := some 106) (v := ?_) (a' := ?_) #[true, true, true, true, true, true, true, true, true, true, true, true, true, true, true, true, true, true, true, true, true, true, true, true, true, true, true, true, true, true, true, false, false, false, false, false, false, false, false, false, false, false, false, false, false, false, false, false] rfl rfl (take_ofW HT_.out HW_.out (by kernel_rfl)) (fun _ _ _ h => h) (Or.inl ⟨by rfl, ?_⟩) hHeld ?_ ?_
             rotate_left
             ·rintro w' ⟨s0, s1, s2, s3, s4, s5, s6, s7, s8, s9, s10, s11, s12, s13, s14, s15, s16, s17, s18, s19⟩
              go_simp
              with_reducible rfl
             rotate_left
             ·exact pt_
             refine one_ (i := 31) (N := some 107) #[true, true, true, true, true, true, true, true, true, true, true, true, true, true, true, true, true, true, true, true, true, true, true, true, true, true, true, true, true, true, true, true, false, false, false, false, false, false, false, false, false, false, false, false, false, false, false, false] rfl rfl (one_of HT_.out (by kernel_rfl)) (by decide) (fun K hK => ?_)
             refine gs_ Tryd.func17 #[.agg #[.int .i64 t748, .bool t749, .int .u64 t750, .int .i64 t751], .agg #[.int .i64 a1_0, .bool a1_1, .int .u64 a1_2, .int .i64 a1_3]] ?_
             with_reducible refine (num_Cmp.calls t748 t749 t750 t751 a1_0 a1_1 a1_2 a1_3 t791 _ A160.out).mono ?_
             rintro e w172 ⟨rfl, hb⟩
             refine ⟨_, rfl, ?_⟩
             replace BK731 := kq_ BK731 hb
             replace BK732 := kq_ BK732 hb
             replace BK733 := kq_ BK733 hb
             replace BK744 := kq_ BK744 hb
             replace BK752 := kq_ BK752 hb
             replace HB := bq_ HB hb
             (try clear hb)
             (try clear hb2)
             (try clear hk)
             (try clear hi)
             refine hK.out _ _ ⟨(blk_cell BK744.out 0).trans rfl, (blk_cell BK744.out 1).trans rfl, (blk_cell BK744.out 2).trans rfl, (blk_cell BK744.out 3).trans rfl, (blk_cell BK731.out 0).trans rfl, (blk_cell BK731.out 1).trans rfl, (blk_cell BK731.out 2).trans rfl, (blk_cell BK731.out 3).trans rfl, (blk_cell BK732.out 0).trans rfl, (blk_cell BK732.out 1).trans rfl, (blk_cell BK732.out 2).trans rfl, (blk_cell BK732.out 3).trans rfl, (blk_cell BK733.out 0).trans rfl, (blk_cell BK733.out 1).trans rfl, (blk_cell BK733.out 2).trans rfl, (blk_cell BK733.out 3).trans rfl, (blk_cell BK752.out 0).trans rfl, (blk_cell BK752.out 1).trans rfl, (blk_cell BK752.out 2).trans rfl, (blk_cell BK752.out 3).trans rfl⟩ (fun hHeld => ?_)
             clear hK K
             refine norm_ (a' := ?_) ?_ ?_
             rotate_left
             ·show Act.put _ (some 107) _ = _
              exact pt_
             refine pure_ (i := 32) (N := some 108) (v := ?_) (a' := ?_) #[true, true, true, true, true, true, true, true, true, true, true, true, true, true, true, true, true, true, true, true, true, true, true, true, true, true, true, true, true, true, true, true, true, false, false, false, false, false, false, false, false, false, false, false, false, false, false, false] rfl rfl (any_of HT_.out (by kernel_rfl)) (fun _ _ _ h => h) (Or.inl ⟨by rfl, ?_⟩) ?_ ?_
             rotate_left
             ·intro w'
              go_simp
              with_reducible rfl
             rotate_left
             ·exact pt_
             refine pure_ (i := 33) (N := some 109) (v := ?_) (a' := ?_) #[true, true, true, true, true, true, true, true, true, true, true, true, true, true, true, true, true, true, true, true, true, true, true, true, true, true, true, true, true, true, true, true, true, true, false, false, false, false, false, false, false, false, false, false, false, false, false, false] rfl rfl (any_of HT_.out (by kernel_rfl)) (fun _ _ _ h => h) (Or.inl ⟨by rfl, ?_⟩) ?_ ?_
             rotate_left
             ·intro w'
              go_simp
              with_reducible rfl
             rotate_left
             ·exact pt_
             refine pure_ (i := 34) (N := some 110) (v := ?_) (a' := ?_) #[true, true, true, true, true, true, true, true, true, true, true, true, true, true, true, true, true, true, true, true, true, true, true, true, true, true, true, true, true, true, true, true, true, true, true, false, false, false, false, false, false, false, false, false, false, false, false, false] rfl rfl (any_of HT_.out (by kernel_rfl)) (fun _ _ _ h => h) (Or.inl ⟨by rfl, ?_⟩) ?_ ?_
             rotate_left
             ·intro w'
              go_simp
              with_reducible rfl
             rotate_left
             ·exact pt_
             refine take_ (i := 35) (N := some 111) (v := ?_) (a' := ?_) #[true, true, true, true, true, true, true, true, true, true, true, true, true, true, true, true, true, true, true, true, true, true, true, true, true, true, true, true, true, true, true, true, true, true, true, true, false, false, false, false, false, false, false, false, false, false, false, false] rfl rfl (take_ofW HT_.out HW_.out (by kernel_rfl)) (fun _ _ _ h => h) (Or.inl ⟨by rfl, ?_⟩) hHeld ?_ ?_
             rotate_left
             ·rintro w' ⟨s0, s1, s2, s3, s4, s5, s6, s7, s8, s9, s10, s11, s12, s13, s14, s15, s16, s17, s18, s19⟩
              go_simp
              with_reducible rfl
             rotate_left
             ·exact pt_
             refine take_ (i := 37) (N := some 113) (v := ?_) (a' := ?_) #[true, true, true, true, true, true, true, true, true, true, true, true, true, true, true, true, true, true, true, true, true, true, true, true, true, true, true, true, true, true, true, true, true, true, true, true, false, true, false, false, false, false, false, false, false, false, false, false] rfl rfl (take_ofW HT_.out HW_.out (by kernel_rfl)) (fun _ _ _ h => h) (Or.inl ⟨by rfl, ?_⟩) hHeld ?_ ?_
             rotate_left
             ·rintro w' ⟨s0, s1, s2, s3, s4, s5, s6, s7, s8, s9, s10, s11, s12, s13, s14, s15, s16, s17, s18, s19⟩
              go_simp
              with_reducible rfl
             rotate_left
             ·exact pt_
             refine take_ (i := 39) (N := some 115) (v := ?_) (a' := ?_) #[true, true, true, true, true, true, true, true, true, true, true, true, true, true, true, true, true, true, true, true, true, true, true, true, true, true, true, true, true, true, true, true, true, true, true, true, false, true, false, true, false, false, false, false, false, false, false, false] rfl rfl (take_ofW HT_.out HW_.out (by kernel_rfl)) (fun _ _ _ h => h) (Or.inl ⟨by rfl, ?_⟩) hHeld ?_ ?_
             rotate_left
             ·rintro w' ⟨s0, s1, s2, s3, s4, s5, s6, s7, s8, s9, s10, s11, s12, s13, s14, s15, s16, s17, s18, s19⟩
              go_simp
              with_reducible rfl
             rotate_left
             ·exact pt_
             refine take_ (i := 41) (N := some 117) (v := ?_) (a' := ?_) #[true, true, true, true, true, true, true, true, true, true, true, true, true, true, true, true, true, true, true, true, true, true, true, true, true, true, true, true, true, true, true, true, true, true, true, true, false, true, false, true, false, true, false, false, false, false, false, false] rfl rfl (take_ofW HT_.out HW_.out (by kernel_rfl)) (fun _ _ _ h => h) (Or.inl ⟨by rfl, ?_⟩) hHeld ?_ ?_
             rotate_left
             ·rintro w' ⟨s0, s1, s2, s3, s4, s5, s6, s7, s8, s9, s10, s11, s12, s13, s14, s15, s16, s17, s18, s19⟩
              go_simp
              with_reducible rfl
             rotate_left
             ·exact pt_
             refine one_ (i := 36) (N := some 112) #[true, true, true, true, true, true, true, true, true, true, true, true, true, true, true, true, true, true, true, true, true, true, true, true, true, true, true, true, true, true, true, true, true, true, true, true, true, true, false, true, false, true, false, false, false, false, false, false] rfl rfl (one_of HT_.out (by kernel_rfl)) (by decide) (fun K hK => ?_)
             refine gs_ Tryd.func16 #[.agg #[.int .i64 t748, .bool t749, .int .u64 t750, .int .i64 t751]] ?_
             with_reducible refine (num_Neg.calls t748 t749 t750 t751 t792 t793 t794 t795 _ A162.out).mono ?_
             rintro e w173 ⟨rfl, hb⟩
             refine ⟨_, rfl, ?_⟩
             replace BK731 := kq_ BK731 hb
             replace BK732 := kq_ BK732 hb
             replace BK733 := kq_ BK733 hb
             replace BK744 := kq_ BK744 hb
             replace BK752 := kq_ BK752 hb
             replace HB := bq_ HB hb
             (try clear hb)
             (try clear hb2)
             (try clear hk)
             (try clear hi)
             refine hK.out _ _ ⟨(blk_cell BK744.out 0).trans rfl, (blk_cell BK744.out 1).trans rfl, (blk_cell BK744.out 2).trans rfl, (blk_cell BK744.out 3).trans rfl, (blk_cell BK731.out 0).trans rfl, (blk_cell BK731.out 1).trans rfl, (blk_cell BK731.out 2).trans rfl, (blk_cell BK731.out 3).trans rfl, (blk_cell BK732.out 0).trans rfl, (blk_cell BK732.out 1).trans rfl, (blk_cell BK732.out 2).trans rfl, (blk_cell BK732.out 3).trans rfl, (blk_cell BK733.out 0).trans rfl, (blk_cell BK733.out 1).trans rfl, (blk_cell BK733.out 2).trans rfl, (blk_cell BK733.out 3).trans rfl, (blk_cell BK752.out 0).trans rfl, (blk_cell BK752.out 1).trans rfl, (blk_cell BK752.out 2).trans rfl, (blk_cell BK752.out 3).trans rfl⟩ (fun hHeld => ?_)
             clear hK K
             refine norm_ (a' := ?_) ?_ ?_
             rotate_left
             ·show Act.put _ (some 112) _ = _
              exact pt_
             refine one_ (i := 38) (N := some 114) #[true, true, true, true, true, true, true, true, true, true, true, true, true, true, true, true, true, true, true, true, true, true, true, true, true, true, true, true, true, true, true, true, true, true, true, true, true, true, true, true, false, true, false, false, false, false, false, false] rfl rfl (one_of HT_.out (by kernel_rfl)) (by decide) (fun K hK => ?_)
             refine gs_ Tryd.func16 #[.agg #[.int .i64 a0_0, .bool a0_1, .int .u64 a0_2, .int .i64 a0_3]] ?_
             with_reducible refine (num_Neg.calls a0_0 a0_1 a0_2 a0_3 t796 t797 t798 t799 _ A163.out).mono ?_
             rintro e w174 ⟨rfl, hb⟩
             refine ⟨_, rfl, ?_⟩
             replace BK731 := kq_ BK731 hb
             replace BK732 := kq_ BK732 hb
             replace BK733 := kq_ BK733 hb
             replace BK744 := kq_ BK744 hb
             replace BK752 := kq_ BK752 hb
             replace HB := bq_ HB hb
             (try clear hb)
             (try clear hb2)
             (try clear hk)
             (try clear hi)
             refine hK.out _ _ ⟨(blk_cell BK744.out 0).trans rfl, (blk_cell BK744.out 1).trans rfl, (blk_cell BK744.out 2).trans rfl, (blk_cell BK744.out 3).trans rfl, (blk_cell BK731.out 0).trans rfl, (blk_cell BK731.out 1).trans rfl, (blk_cell BK731.out 2).trans rfl, (blk_cell BK731.out 3).trans rfl, (blk_cell BK732.out 0).trans rfl, (blk_cell BK732.out 1).trans rfl, (blk_cell BK732.out 2).trans rfl, (blk_cell BK732.out 3).trans rfl, (blk_cell BK733.out 0).trans rfl, (blk_cell BK733.out 1).trans rfl, (blk_cell BK733.out 2).trans rfl, (blk_cell BK733.out 3).trans rfl, (blk_cell BK752.out 0).trans rfl, (blk_cell BK752.out 1).trans rfl, (blk_cell BK752.out 2).trans rfl, (blk_cell BK752.out 3).trans rfl⟩ (fun hHeld => ?_)
             clear hK K
             refine norm_ (a' := ?_) ?_ ?_
             rotate_left
             ·show Act.put _ (some 114) _ = _
              exact pt_
             refine one_ (i := 40) (N := some 116) #[true, true, true, true, true, true, true, true, true, true, true, true, true, true, true, true, true, true, true, true, true, true, true, true, true, true, true, true, true, true, true, true, true, true, true, true, true, true, true, true, true, true, false, false, false, false, false, false] rfl rfl (one_of HT_.out (by kernel_rfl)) (by decide) (fun K hK => ?_)
             refine gs_ Tryd.func16 #[.agg #[.int .i64 a1_0, .bool a1_1, .int .u64 a1_2, .int .i64 a1_3]] ?_
             with_reducible refine (num_Neg.calls a1_0 a1_1 a1_2 a1_3 t800 t801 t802 t803 _ A164.out).mono ?_
             rintro e w175 ⟨rfl, hb⟩
             refine ⟨_, rfl, ?_⟩
             replace BK731 := kq_ BK731 hb
             replace BK732 := kq_ BK732 hb
             replace BK733 := kq_ BK733 hb
             replace BK744 := kq_ BK744 hb
             replace BK752 := kq_ BK752 hb
             replace HB := bq_ HB hb
             (try clear hb)
             (try clear hb2)
             (try clear hk)
             (try clear hi)
             refine hK.out _ _ ⟨(blk_cell BK744.out 0).trans rfl, (blk_cell BK744.out 1).trans rfl, (blk_cell BK744.out 2).trans rfl, (blk_cell BK744.out 3).trans rfl, (blk_cell BK731.out 0).trans rfl, (blk_cell BK731.out 1).trans rfl, (blk_cell BK731.out 2).trans rfl, (blk_cell BK731.out 3).trans rfl, (blk_cell BK732.out 0).trans rfl, (blk_cell BK732.out 1).trans rfl, (blk_cell BK732.out 2).trans rfl, (blk_cell BK732.out 3).trans rfl, (blk_cell BK733.out 0).trans rfl, (blk_cell BK733.out 1).trans rfl, (blk_cell BK733.out 2).trans rfl, (blk_cell BK733.out 3).trans rfl, (blk_cell BK752.out 0).trans rfl, (blk_cell BK752.out 1).trans rfl, (blk_cell BK752.out 2).trans rfl, (blk_cell BK752.out 3).trans rfl⟩ (fun hHeld => ?_)
             clear hK K
             refine norm_ (a' := ?_) ?_ ?_
             rotate_left
             ·show Act.put _ (some 116) _ = _
              exact pt_
             refine one_ (i := 42) (N := some 118) #[true, true, true, true, true, true, true, true, true, true, true, true, true, true, true, true, true, true, true, true, true, true, true, true, true, true, true, true, true, true, true, true, true, true, true, true, true, true, true, true, true, true, true, false, false, false, false, false] rfl rfl (one_of HT_.out (by kernel_rfl)) (by decide) (fun K hK => ?_)
             refine gs_ Tryd.func16 #[.agg #[.int .i64 a2_0, .bool a2_1, .int .u64 a2_2, .int .i64 a2_3]] ?_
             with_reducible refine (num_Neg.calls a2_0 a2_1 a2_2 a2_3 t804 t805 t806 t807 _ A165.out).mono ?_
             rintro e w176 ⟨rfl, hb⟩
             refine ⟨_, rfl, ?_⟩
             replace BK731 := kq_ BK731 hb
             replace BK732 := kq_ BK732 hb
             replace BK733 := kq_ BK733 hb
             replace BK744 := kq_ BK744 hb
             replace BK752 := kq_ BK752 hb
             replace HB := bq_ HB hb
             (try clear hb)
             (try clear hb2)
             (try clear hk)
             (try clear hi)
             refine hK.out _ _ ⟨(blk_cell BK744.out 0).trans rfl, (blk_cell BK744.out 1).trans rfl, (blk_cell BK744.out 2).trans rfl, (blk_cell BK744.out 3).trans rfl, (blk_cell BK731.out 0).trans rfl, (blk_cell BK731.out 1).trans rfl, (blk_cell BK731.out 2).trans rfl, (blk_cell BK731.out 3).trans rfl, (blk_cell BK732.out 0).trans rfl, (blk_cell BK732.out 1).trans rfl, (blk_cell BK732.out 2).trans rfl, (blk_cell BK732.out 3).trans rfl, (blk_cell BK733.out 0).trans rfl, (blk_cell BK733.out 1).trans rfl, (blk_cell BK733.out 2).trans rfl, (blk_cell BK733.out 3).trans rfl, (blk_cell BK752.out 0).trans rfl, (blk_cell BK752.out 1).trans rfl, (blk_cell BK752.out 2).trans rfl, (blk_cell BK752.out 3).trans rfl⟩ (fun hHeld => ?_)
             clear hK K
             refine norm_ (a' := ?_) ?_ ?_
             rotate_left
             ·show Act.put _ (some 118) _ = _
              exact pt_
             refine one_ (i := 43) (N := some 119) #[true, true, true, true, true, true, true, true, true, true, true, true, true, true, true, true, true, true, true, true, true, true, true, true, true, true, true, true, true, true, true, true, true, true, true, true, true, true, true, true, true, true, true, true, false, false, false, false] rfl rfl (one_of HT_.out (by kernel_rfl)) (by decide) (fun K hK => ?_)
             refine Kd.R_lit_step k30 _ 30 ?hg (N := 119) ?hd (xs := ([(⟨t796, t797, t798, t799⟩ : S30), (⟨t800, t801, t802, t803⟩ : S30), (⟨t804, t805, t806, t807⟩ : S30)] : List (S30))) (inner := [.int .i64 t796, .bool t797, .int .u64 t798, .int .i64 t799, .int .i64 t800, .bool t801, .int .u64 t802, .int .i64 t803, .int .i64 t804, .bool t805, .int .u64 t806, .int .i64 t807]) (ok := fun _ => True) (okp := fun _ => True) ?hr ?hp (fun _ hk => hk) trivial (Below.refl _ _) (Nat.le_refl _) (by simp) ?_; (case hd => rfl); (case hg => rfl); (case hr => first | (go_simp; done) | (go_simp; rfl)); (case hp => exact (Reps.c4 (show Kd.M k30 _ _ _ (⟨t796, t797, t798, t799⟩ : S30) [.int .i64 t796, .bool t797, .int .u64 t798, .int .i64 t799] from (k30_mkM _ _ _ (⟨t796, t797, t798, t799⟩ : S30) )) (Reps.c4 (show Kd.M k30 _ _ _ (⟨t800, t801, t802, t803⟩ : S30) [.int .i64 t800, .bool t801, .int .u64 t802, .int .i64 t803] from (k30_mkM _ _ _ (⟨t800, t801, t802, t803⟩ : S30) )) (Reps.c4 (show Kd.M k30 _ _ _ (⟨t804, t805, t806, t807⟩ : S30) [.int .i64 t804, .bool t805, .int .u64 t806, .int .i64 t807] from (k30_mkM _ _ _ (⟨t804, t805, t806, t807⟩ : S30) )) (Reps.none _ _)))))
             intro v809 w177 ho178 hb hg_ hnew_
             clear hg_ hnew_
             (first | rw [← Ny808.out] at ho178 | (simp only [Int.reduceToNat] at ho178; rw [← Ny808.out] at ho178))
             have HO810 := Aside0.mk (Kd.R_lower (Kd.R_newB (Kd.R_newB (Kd.R_newB (Kd.R_newB (Kd.R_newB ho178 (g := gb731) (o := .cells #[.int .i64 a0_0, .bool a0_1, .int .u64 a0_2, .int .i64 a0_3] 30 (0, 0)) (kb_ BK731.out)) (g := gb732) (o := .cells #[.int .i64 a1_0, .bool a1_1, .int .u64 a1_2, .int .i64 a1_3] 30 (0, 0)) (kb_ BK732.out)) (g := gb733) (o := .cells #[.int .i64 a2_0, .bool a2_1, .int .u64 a2_2, .int .i64 a2_3] 30 (0, 0)) (kb_ BK733.out)) (g := gb744) (o := .cells #[.int .i64 t740, .bool t741, .int .u64 t742, .int .i64 t743] 30 (0, 0)) (kb_ BK744.out)) (g := gb752) (o := .cells #[.int .i64 t748, .bool t749, .int .u64 t750, .int .i64 t751] 30 (0, 0)) (kb_ BK752.out)) (below_size (bw_ HB.out)))
             replace BK731 := kq_ BK731 hb
             replace BK732 := kq_ BK732 hb
             replace BK733 := kq_ BK733 hb
             replace BK744 := kq_ BK744 hb
             replace BK752 := kq_ BK752 hb
             replace HB := bq_ HB hb
             clear hb ho178
             obtain ⟨Ao179, co179, eo179⟩ := Kd.R_slice HO810.out
             (first | subst eo179 | (injection eo179 with f1_ f2_ f3_; have f4_ := f1_.symm; have f5_ := f3_.symm; clear f1_ f2_ f3_; subst f4_; subst f5_))
             refine hK.out _ _ ⟨(blk_cell BK744.out 0).trans rfl, (blk_cell BK744.out 1).trans rfl, (blk_cell BK744.out 2).trans rfl, (blk_cell BK744.out 3).trans rfl, (blk_cell BK731.out 0).trans rfl, (blk_cell BK731.out 1).trans rfl, (blk_cell BK731.out 2).trans rfl, (blk_cell BK731.out 3).trans rfl, (blk_cell BK732.out 0).trans rfl, (blk_cell BK732.out 1).trans rfl, (blk_cell BK732.out 2).trans rfl, (blk_cell BK732.out 3).trans rfl, (blk_cell BK733.out 0).trans rfl, (blk_cell BK733.out 1).trans rfl, (blk_cell BK733.out 2).trans rfl, (blk_cell BK733.out 3).trans rfl, (blk_cell BK752.out 0).trans rfl, (blk_cell BK752.out 1).trans rfl, (blk_cell BK752.out 2).trans rfl, (blk_cell BK752.out 3).trans rfl⟩ (fun hHeld => ?_)
             clear hK K
             refine norm_ (a' := ?_) ?_ ?_
             rotate_left
             ·show Act.put _ (some 119) _ = _
              exact pt_
             refine one_ (i := 44) (N := some 120) #[true, true, true, true, true, true, true, true, true, true, true, true, true, true, true, true, true, true, true, true, true, true, true, true, true, true, true, true, true, true, true, true, true, true, true, true, true, true, true, true, true, true, true, true, true, false, false, false] rfl rfl (one_of HT_.out (by kernel_rfl)) (by decide) (fun K hK => ?_)
             refine gs_ Tryd.func19 #[.slice Ao179 y808.length co179] ?_
             with_reducible refine (num_Least.calls kj99 _ _ y808 t811 t812 t813 t814 _ ?side1 ?side2 A166.out).mono ?_
             (case side1 => exact kc_ (Kd.R_reads' HO810.out).2.2)
             (case side2 => exact (Kd.R_reads' HO810.out).2.1)
             rintro e w180 ⟨rfl, hb⟩
             refine ⟨_, rfl, ?_⟩
             replace HO810 := Aside0.mk (Kd.R_below (kr_ HO810.out) hb)
             replace BK731 := kq_ BK731 hb
             replace BK732 := kq_ BK732 hb
             replace BK733 := kq_ BK733 hb
             replace BK744 := kq_ BK744 hb
             replace BK752 := kq_ BK752 hb
             replace HB := bq_ HB hb
             (try clear hb)
             (try clear hb2)
             (try clear hk)
             (try clear hi)
             refine hK.out _ _ ⟨(blk_cell BK744.out 0).trans rfl, (blk_cell BK744.out 1).trans rfl, (blk_cell BK744.out 2).trans rfl, (blk_cell BK744.out 3).trans rfl, (blk_cell BK731.out 0).trans rfl, (blk_cell BK731.out 1).trans rfl, (blk_cell BK731.out 2).trans rfl, (blk_cell BK731.out 3).trans rfl, (blk_cell BK732.out 0).trans rfl, (blk_cell BK732.out 1).trans rfl, (blk_cell BK732.out 2).trans rfl, (blk_cell BK732.out 3).trans rfl, (blk_cell BK733.out 0).trans rfl, (blk_cell BK733.out 1).trans rfl, (blk_cell BK733.out 2).trans rfl, (blk_cell BK733.out 3).trans rfl, (blk_cell BK752.out 0).trans rfl, (blk_cell BK752.out 1).trans rfl, (blk_cell BK752.out 2).trans rfl, (blk_cell BK752.out 3).trans rfl⟩ (fun hHeld => ?_)
             clear hK K
             refine norm_ (a' := ?_) ?_ ?_
             rotate_left
             ·show Act.put _ (some 120) _ = _
              exact pt_
             refine pure_ (i := 45) (N := some 121) (v := ?_) (a' := ?_) #[true, true, true, true, true, true, true, true, true, true, true, true, true, true, true, true, true, true, true, true, true, true, true, true, true, true, true, true, true, true, true, true, true, true, true, true, true, true, true, true, true, true, true, true, true, true, false, false] rfl rfl (any_of HT_.out (by kernel_rfl)) (fun _ _ _ h => h) (Or.inl ⟨by rfl, ?_⟩) ?_ ?_
             rotate_left
             ·intro w'
              go_simp
              with_reducible rfl
             rotate_left
             ·exact pt_
             refine pure_ (i := 46) (N := some 122) (v := ?_) (a' := ?_) #[true, true, true, true, true, true, true, true, true, true, true, true, true, true, true, true, true, true, true, true, true, true, true, true, true, true, true, true, true, true, true, true, true, true, true, true, true, true, true, true, true, true, true, true, true, true, true, false] rfl rfl (any_of HT_.out (by kernel_rfl)) (fun _ _ _ h => h) (Or.inl ⟨by rfl, ?_⟩) ?_ ?_
             rotate_left
             ·intro w'
              go_simp
              with_reducible rfl
             rotate_left
             ·exact pt_
             refine pure_ (i := 47) (N := some 6) (v := ?_) (a' := ?_) #[true, true, true, true, true, true, true, true, true, true, true, true, true, true, true, true, true, true, true, true, true, true, true, true, true, true, true, true, true, true, true, true, true, true, true, true, true, true, true, true, true, true, true, true, true, true, true, true] rfl rfl (any_of HT_.out (by kernel_rfl)) (fun _ _ _ h => h) (Or.inl ⟨by rfl, ?_⟩) ?_ ?_
             rotate_left
             ·intro w'
              go_simp
              with_reducible rfl
             rotate_left
             ·exact pt_
             refine done_ (done_of HT_.out (by kernel_rfl)) ?_
             try go_wp2
             go_ret
             exact ⟨rf_, bw_ HB.out⟩
            ·rw [if_neg c161] at H
             have c161b0 : decide (0 ≤ t791) = false := decide_eq_false c161
             clear c161
             exact absurd ((Option.some.inj H).trans HRT_.out) (by simp)
           ·rw [if_neg c159] at H
            have c159b0 : decide (0 ≤ t790) = false := decide_eq_false c159
            clear c159
            exact absurd ((Option.some.inj H).trans HRT_.out) (by simp)
          ·rw [if_neg c157] at H
           have c157b0 : decide (t789 ≤ 0) = false := decide_eq_false c157
           clear c157
           exact absurd ((Option.some.inj H).trans HRT_.out) (by simp)
         ·rw [if_neg c155] at H
          have c155b0 : decide (t788 ≤ 0) = false := decide_eq_false c155
          clear c155
          exact absurd ((Option.some.inj H).trans HRT_.out) (by simp)
        ·rw [if_neg c153] at H
         have c153b0 : decide (t787 ≤ 0) = false := decide_eq_false c153
         clear c153
         exact absurd ((Option.some.inj H).trans HRT_.out) (by simp)
       ·replace c151 := Bool.eq_false_iff.mpr c151
        subst c151
        have H1 : (some false) = some r := by rw [if_neg (show ¬ (false = true) by decide)] at H; exact H
        clear H
        have H := H1
        clear H1
        exact absurd ((Option.some.inj H).trans HRT_.out) (by simp)
      ·replace c150 := Bool.eq_false_iff.mpr c150
       subst c150
       have H1 : (some false) = some r := by rw [if_neg (show ¬ (false = true) by decide)] at H; exact H
       clear H
       have H := H1
       clear H1
       exact absurd ((Option.some.inj H).trans HRT_.out) (by simp)


end Go.Proofs.YtkemnoejpbknhaaDoor.PA
