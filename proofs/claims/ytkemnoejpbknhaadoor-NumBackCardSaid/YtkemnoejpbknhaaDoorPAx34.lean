-- Laid by this work's own program; Lean checks it.
import Derived.Test.YtkemnoejpbknhaaDoorPAx0
import Derived.Test.YtkemnoejpbknhaaDoorPAx1
import Derived.Test.YtkemnoejpbknhaaDoorPAx2
import Derived.Test.YtkemnoejpbknhaaDoorPAx5
import Derived.Test.YtkemnoejpbknhaaDoorPAx10
import Derived.Test.YtkemnoejpbknhaaDoorPAx15
import Derived.Test.YtkemnoejpbknhaaDoorPAx20
import Derived.Test.YtkemnoejpbknhaaDoorPAx23
import Derived.Test.YtkemnoejpbknhaaDoorPAx26
namespace Go.Proofs.YtkemnoejpbknhaaDoor.PA
open Go.RowKit Go.Proofs.YtkemnoejpbknhaaDoorW.PrintWords Go.Proofs.YtkemnoejpbknhaaDoorW.PrintLast Go.Proofs.YtkemnoejpbknhaaDoorW.PrintMore
attribute [local go_sem] max2_int min2_int max_two min_two max_three min_three max_four min_four   -- for this text's walks alone
set_option linter.unusedVariables false
set_option linter.unusedSimpArgs false

attribute [local go_sem ↓ high] isSome_set_
attribute [local go_sem high] eqA30
/-! ### peloruslaw05_NumBack: function 10 -/
theorem peloruslaw05_NumBack.tab7 : rtab .any (opsOf Tryd.f10 7) = peloruslaw05_NumBack.T7 := by kernel_rfl
theorem peloruslaw05_NumBack.bits7 : waitsOk peloruslaw05_NumBack.T7.2 peloruslaw05_NumBack.B7 = true := by kernel_rfl
def peloruslaw05_NumBack.T9 : Bool × List (List Nat × List Nat) := (true, [([], []), ([], []), ([0, 1], [0, 1]), ([2], [2]), ([3, 2], [3]), ([4], [4]), ([4], [4]), ([5, 6, 4, 4], [4, 5, 6]), ([4], [4]), ([4], [4]), ([8, 9, 7, 4], [4, 8, 9]), ([7, 10, 10, 4], [4, 7, 10]), ([11, 4], [4, 11]), ([4, 12], [4, 12]), ([13, 11, 0, 1, 2, 3, 4, 5, 6, 7, 8, 9, 10, 11, 12, 13], [13])])
def peloruslaw05_NumBack.B9 : List Nat := [0, 0, 3, 7, 15, 31, 31, 127, 31, 31, 1023, 2047, 4095, 8191, 16383]
theorem peloruslaw05_NumBack.tab9 : rtab .any (opsOf Tryd.f10 9) = peloruslaw05_NumBack.T9 := by kernel_rfl
theorem peloruslaw05_NumBack.bits9 : waitsOk peloruslaw05_NumBack.T9.2 peloruslaw05_NumBack.B9 = true := by kernel_rfl
set_option maxHeartbeats 8000000 in
set_option maxRecDepth 100000 in
theorem peloruslaw05_NumBack.calls (k : Nat) (a0_0 : Int) (a0_1 : Bool) (a0_2 : Int) (a0_3 : Int) (a1_0 : Bool) (A1_1 : Option Addr) (c1_1 : Nat) (l1_1 : List Int) (a1_2 : Int) (a2_0 : Bool) (A2_1 : Option Addr) (c2_1 : Nat) (l2_1 : List Int) (a2_2 : Int) (a3 : Bool) (r : Bool) (w : World) (hr1_1 : Kd.C (Kd.int .u32) w A1_1 l1_1.length l1_1) (hc1_1 : l1_1.length ≤ c1_1) (hr2_1 : Kd.C (Kd.int .u32) w A2_1 l2_1.length l2_1) (hc2_1 : l2_1.length ≤ c2_1) (hr_ : r = true) (haw_ : ∀ r, peloruslaw05_awake.f k = some r → r = true) (h : peloruslaw05_NumBack.f k a0_0 a0_1 a0_2 a0_3 a1_0 l1_1 a1_2 a2_0 l2_1 a2_2 a3 = some r) (htab_ : Kd.C (Kd.int .u8) w (some ⟨0, 0, none⟩) 32 tz32tab) :
  Calls Tryd.prog 10 #[.agg #[.int .i64 a0_0, .bool a0_1, .int .u64 a0_2, .int .i64 a0_3], .agg #[.bool a1_0, .slice A1_1 l1_1.length c1_1, .int .i64 a1_2], .agg #[.bool a2_0, .slice A2_1 l2_1.length c2_1, .int .i64 a2_2], .bool a3] w fun e w' => e = .returned (.bool r) ∧ Below w.heap.size w w' := by
 have HTAB := Aside0.mk htab_
 clear htab_
 have HRT_ := Aside0.mk hr_
 clear hr_
 have HAW_ := Aside0.mk haw_
 clear haw_
 have hu30 := Tryd.underlying30
 have hu26 := Tryd.underlying26
 have HR1_1 := Aside0.mk hr1_1
 have HC1_1 := Aside0.mk hc1_1
 clear hr1_1 hc1_1
 have HR2_1 := Aside0.mk hr2_1
 have HC2_1 := Aside0.mk hc2_1
 clear hr2_1 hc2_1
 have HB := Aside0.mk (Below.refl w.heap.size w)
 have H : ((peloruslaw05_awake.f k).bind fun t1165 => ((peloruslaw03_Few.f a1_0 l1_1 a1_2).bind fun t1166 => ((peloruslaw03_Few.f a2_0 l2_1 a2_2).bind fun t1167 => (if t1165 = true then (if t1166 = true then (if t1167 = true then (if a0_3 > 1000 then (peloruslaw05_NumBack.j0 k a3 t1165 true a0_0 a0_1 a0_2 a0_3 a1_0 l1_1 a1_2 a2_0 l2_1 a2_2) else (peloruslaw05_NumBack.j0 k a3 t1165 (decide (a0_3 < (-1000))) a0_0 a0_1 a0_2 a0_3 a1_0 l1_1 a1_2 a2_0 l2_1 a2_2)) else (peloruslaw05_NumBack.j0 k a3 t1165 true a0_0 a0_1 a0_2 a0_3 a1_0 l1_1 a1_2 a2_0 l2_1 a2_2)) else (peloruslaw05_NumBack.j0 k a3 t1165 true a0_0 a0_1 a0_2 a0_3 a1_0 l1_1 a1_2 a2_0 l2_1 a2_2)) else (peloruslaw05_NumBack.j0 k a3 t1165 true a0_0 a0_1 a0_2 a0_3 a1_0 l1_1 a1_2 a2_0 l2_1 a2_2))))) = some r := h
 clear h
 replace H := Option.bind_eq_some_iff.mp H
 obtain ⟨t1165, A50, H⟩ := H
 (try dsimp only at H)
 have A5 := Aside0.mk A50
 clear A50
 replace H := Option.bind_eq_some_iff.mp H
 obtain ⟨t1166, A60, H⟩ := H
 (try dsimp only at H)
 have A6 := Aside0.mk A60
 clear A60
 replace H := Option.bind_eq_some_iff.mp H
 obtain ⟨t1167, A70, H⟩ := H
 (try dsimp only at H)
 have A7 := Aside0.mk A70
 clear A70
 have HC8 := Aside0.mk H
 clear H
 go_enter Tryd.func10, Tryd.ntmps10
 go_upto_region 4 with (first | ((with_reducible refine gate_dst (N := 4) rfl ?_); refine bx_ 4 #[.int .i64 a0_0, .bool a0_1, .int .u64 a0_2, .int .i64 a0_3] 30 ?_; intro gb1162 hg w9 hbox hb; have BK1162 := Aside0.mk (hbox); have GW1162 := ge_ hg HB; have GE1162 := ge_ hg HB; replace HB := bq_ HB hb; clear hb hbox hg) | ((with_reducible refine gate_dst (N := 5) rfl ?_); refine bx_ 5 #[.bool a1_0, .slice A1_1 l1_1.length c1_1, .int .i64 a1_2] 26 ?_; intro gb1163 hg w10 hbox hb; have BK1163 := Aside0.mk (hbox); have GW1163 := ge_ hg HB; have GE1163 := ge_ hg HB; have NB1162_1163 := nb_ hg BK1162; have NB1163_1162 := nc_ hg BK1162; replace BK1162 := kq_ BK1162 hb; replace HB := bq_ HB hb; clear hb hbox hg) | ((with_reducible refine gate_dst (N := 6) rfl ?_); refine bx_ 6 #[.bool a2_0, .slice A2_1 l2_1.length c2_1, .int .i64 a2_2] 26 ?_; intro gb1164 hg w11 hbox hb; have BK1164 := Aside0.mk (hbox); have GW1164 := ge_ hg HB; have GE1164 := ge_ hg HB; have NB1162_1164 := nb_ hg BK1162; have NB1164_1162 := nc_ hg BK1162; have NB1163_1164 := nb_ hg BK1163; have NB1164_1163 := nc_ hg BK1163; replace BK1162 := kq_ BK1162 hb; replace BK1163 := kq_ BK1163 hb; replace HB := bq_ HB hb; clear hb hbox hg) | ((with_reducible refine gate_callee (f := 11) rfl ?_); refine gl_ (some 14) Tryd.func11 #[] ?_; (with_reducible refine (peloruslaw05_awake.calls k  t1165 _ (HAW_.out _ A5.out) A5.out ?sidet).mono ?_); (case sidet => exact Kd.C_below HTAB.out (bw_ HB.out)); rintro e w12 ⟨rfl, hb⟩; refine ⟨_, rfl, ?_⟩; replace BK1162 := kq_ BK1162 hb; replace BK1163 := kq_ BK1163 hb; replace BK1164 := kq_ BK1164 hb; replace HB := bq_ HB hb; (try clear hb); (try clear hb2); (try clear hk); (try clear hi); have hnb13 := NB1163_1162.out; have hnc13 := NB1162_1163.out; have hnb14 := NB1163_1164.out; have hnc14 := NB1164_1163.out; obtain ⟨hcz15_0, hcz15_1, hcz15_2, hfz15_0, hfz15_1, hfz15_2⟩ := c3_ BK1163) | ((with_reducible refine gate_callee (f := 35) rfl ?_); refine gl_ (some 16) Tryd.func35 #[.agg #[.bool a1_0, .slice A1_1 l1_1.length c1_1, .int .i64 a1_2]] ?_; (with_reducible refine (peloruslaw03_Few.calls a1_0 _ _ l1_1 a1_2 t1166 _ ?side1 ?side2 A6.out).mono ?_); (case side1 => exact kc_ (Kd.C_below HR1_1.out HB.out)); (case side2 => exact HC1_1.out); rintro e w16 ⟨rfl, hb⟩; refine ⟨_, rfl, ?_⟩; replace BK1162 := kq_ BK1162 hb; replace BK1163 := kq_ BK1163 hb; replace BK1164 := kq_ BK1164 hb; replace HB := bq_ HB hb; (try clear hb); (try clear hb2); (try clear hk); (try clear hi); have hnb17 := NB1164_1162.out; have hnc17 := NB1162_1164.out; obtain ⟨hcz18_0, hcz18_1, hcz18_2, hfz18_0, hfz18_1, hfz18_2⟩ := c3_ BK1164) | ((with_reducible refine gate_callee (f := 35) rfl ?_); refine gl_ (some 18) Tryd.func35 #[.agg #[.bool a2_0, .slice A2_1 l2_1.length c2_1, .int .i64 a2_2]] ?_; (with_reducible refine (peloruslaw03_Few.calls a2_0 _ _ l2_1 a2_2 t1167 _ ?side1 ?side2 A7.out).mono ?_); (case side1 => exact kc_ (Kd.C_below HR2_1.out HB.out)); (case side2 => exact HC2_1.out); rintro e w19 ⟨rfl, hb⟩; refine ⟨_, rfl, ?_⟩; replace BK1162 := kq_ BK1162 hb; replace BK1163 := kq_ BK1163 hb; replace BK1164 := kq_ BK1164 hb; replace HB := bq_ HB hb; (try clear hb); (try clear hb2); (try clear hk); (try clear hi)))
 (try simp only [Act.put, List.setIfInBounds_toArray, List.set_cons_zero, List.set_cons_succ])
 go_cut [38] (fun v38 wc => ∃ (kq : Nat) (x38_7 : Bool), v38 = .bool x38_7 ∧ Aside0 (peloruslaw05_NumBack.j0 kq a3 t1165 x38_7 a0_0 a0_1 a0_2 a0_3 a1_0 l1_1 a1_2 a2_0 l2_1 a2_2 = some r) ∧ Aside0 (kq ≤ k) ∧ Aside0 (wc.heap[gb1162]? = some (.cells #[.int .i64 a0_0, .bool a0_1, .int .u64 a0_2, .int .i64 a0_3] 30 (0, 0))) ∧ Aside0 (wc.heap[gb1163]? = some (.cells #[.bool a1_0, (.slice A1_1 l1_1.length c1_1), .int .i64 a1_2] 26 (0, 0))) ∧ Aside0 (wc.heap[gb1164]? = some (.cells #[.bool a2_0, (.slice A2_1 l2_1.length c2_1), .int .i64 a2_2] 26 (0, 0))) ∧ Aside0 (Below w.heap.size w wc))
 case first =>
  have H := HC8.out
  clear HC8
  by_cases c20 : t1165 = true
  ·subst c20
   have H1 : (if t1166 = true then (if t1167 = true then (if a0_3 > 1000 then (peloruslaw05_NumBack.j0 k a3 true true a0_0 a0_1 a0_2 a0_3 a1_0 l1_1 a1_2 a2_0 l2_1 a2_2) else (peloruslaw05_NumBack.j0 k a3 true (decide (a0_3 < (-1000))) a0_0 a0_1 a0_2 a0_3 a1_0 l1_1 a1_2 a2_0 l2_1 a2_2)) else (peloruslaw05_NumBack.j0 k a3 true true a0_0 a0_1 a0_2 a0_3 a1_0 l1_1 a1_2 a2_0 l2_1 a2_2)) else (peloruslaw05_NumBack.j0 k a3 true true a0_0 a0_1 a0_2 a0_3 a1_0 l1_1 a1_2 a2_0 l2_1 a2_2)) = some r := by rw [if_pos rfl] at H; exact H
   clear H
   have H := H1
   clear H1
   by_cases c21 : t1166 = true
   ·subst c21
    have H1 : (if t1167 = true then (if a0_3 > 1000 then (peloruslaw05_NumBack.j0 k a3 true true a0_0 a0_1 a0_2 a0_3 a1_0 l1_1 a1_2 a2_0 l2_1 a2_2) else (peloruslaw05_NumBack.j0 k a3 true (decide (a0_3 < (-1000))) a0_0 a0_1 a0_2 a0_3 a1_0 l1_1 a1_2 a2_0 l2_1 a2_2)) else (peloruslaw05_NumBack.j0 k a3 true true a0_0 a0_1 a0_2 a0_3 a1_0 l1_1 a1_2 a2_0 l2_1 a2_2)) = some r := by rw [if_pos rfl] at H; exact H
    clear H
    have H := H1
    clear H1
    by_cases c22 : t1167 = true
    ·subst c22
     have H1 : (if a0_3 > 1000 then (peloruslaw05_NumBack.j0 k a3 true true a0_0 a0_1 a0_2 a0_3 a1_0 l1_1 a1_2 a2_0 l2_1 a2_2) else (peloruslaw05_NumBack.j0 k a3 true (decide (a0_3 < (-1000))) a0_0 a0_1 a0_2 a0_3 a1_0 l1_1 a1_2 a2_0 l2_1 a2_2)) = some r := by rw [if_pos rfl] at H; exact H
     clear H
     have H := H1
     clear H1
     by_cases c23 : a0_3 > 1000
     ·rw [if_pos c23] at H
      have c23b0 : decide (1000 < a0_3) = true := decide_eq_true c23
      clear c23
      (first | rw [c23b0] | (simp only [i64_w, i32_w]; rw [c23b0]) | skip)
      have H' := Aside0.mk H
      clear H
      have hnb24 := NB1162_1163.out
      have hnc24 := NB1163_1162.out
      have hnb25 := NB1162_1164.out
      have hnc25 := NB1164_1162.out
      obtain ⟨hcz26_0, hcz26_1, hcz26_2, hcz26_3, hfz26_0, hfz26_1, hfz26_2, hfz26_3⟩ := c4_ BK1162
      go_wp2
      go_meet
      case rel => exact ⟨_, (true), (by first | rfl | (simp; done) | (simp [*]; done)), H', ⟨by first | omega | exact Nat.le_refl _⟩, ⟨kb_ BK1162.out⟩, ⟨kb_ BK1163.out⟩, ⟨kb_ BK1164.out⟩, ⟨bw_ HB.out⟩⟩
     ·rw [if_neg c23] at H
      have c23b0 : decide (1000 < a0_3) = false := decide_eq_false c23
      clear c23
      (first | rw [c23b0] | (simp only [i64_w, i32_w]; rw [c23b0]) | skip)
      have H' := Aside0.mk H
      clear H
      have hnb27 := NB1162_1163.out
      have hnc27 := NB1163_1162.out
      have hnb28 := NB1162_1164.out
      have hnc28 := NB1164_1162.out
      obtain ⟨hcz29_0, hcz29_1, hcz29_2, hcz29_3, hfz29_0, hfz29_1, hfz29_2, hfz29_3⟩ := c4_ BK1162
      go_wp2
      go_meet
      case rel => exact ⟨_, (decide (a0_3 < (-1000))), (by first | rfl | (simp; done) | (simp [*]; done)), H', ⟨by first | omega | exact Nat.le_refl _⟩, ⟨kb_ BK1162.out⟩, ⟨kb_ BK1163.out⟩, ⟨kb_ BK1164.out⟩, ⟨bw_ HB.out⟩⟩
    ·replace c22 := Bool.eq_false_iff.mpr c22
     subst c22
     have H1 : (peloruslaw05_NumBack.j0 k a3 true true a0_0 a0_1 a0_2 a0_3 a1_0 l1_1 a1_2 a2_0 l2_1 a2_2) = some r := by rw [if_neg (show ¬ (false = true) by decide)] at H; exact H
     clear H
     have H := H1
     clear H1
     have H' := Aside0.mk H
     clear H
     go_wp2
     go_meet
     case rel => exact ⟨_, (true), (by first | rfl | (simp; done) | (simp [*]; done)), H', ⟨by first | omega | exact Nat.le_refl _⟩, ⟨kb_ BK1162.out⟩, ⟨kb_ BK1163.out⟩, ⟨kb_ BK1164.out⟩, ⟨bw_ HB.out⟩⟩
   ·replace c21 := Bool.eq_false_iff.mpr c21
    subst c21
    have H1 : (peloruslaw05_NumBack.j0 k a3 true true a0_0 a0_1 a0_2 a0_3 a1_0 l1_1 a1_2 a2_0 l2_1 a2_2) = some r := by rw [if_neg (show ¬ (false = true) by decide)] at H; exact H
    clear H
    have H := H1
    clear H1
    have H' := Aside0.mk H
    clear H
    go_wp2
    go_meet
    case rel => exact ⟨_, (true), (by first | rfl | (simp; done) | (simp [*]; done)), H', ⟨by first | omega | exact Nat.le_refl _⟩, ⟨kb_ BK1162.out⟩, ⟨kb_ BK1163.out⟩, ⟨kb_ BK1164.out⟩, ⟨bw_ HB.out⟩⟩
  ·replace c20 := Bool.eq_false_iff.mpr c20
   subst c20
   have H1 : (peloruslaw05_NumBack.j0 k a3 false true a0_0 a0_1 a0_2 a0_3 a1_0 l1_1 a1_2 a2_0 l2_1 a2_2) = some r := by rw [if_neg (show ¬ (false = true) by decide)] at H; exact H
   clear H
   have H := H1
   clear H1
   have H' := Aside0.mk H
   clear H
   go_wp2
   go_meet
   case rel => exact ⟨_, (true), (by first | rfl | (simp; done) | (simp [*]; done)), H', ⟨by first | omega | exact Nat.le_refl _⟩, ⟨kb_ BK1162.out⟩, ⟨kb_ BK1163.out⟩, ⟨kb_ BK1164.out⟩, ⟨bw_ HB.out⟩⟩
 case rest =>
  clear HC8
  try clear c1
  try clear c2
  try clear p2
  try clear c3
  try clear c10
  try clear c11
  try clear c13
  try clear c14
  try clear c17
  try clear c20
  try clear c21
  try clear c22
  try clear c23
  try clear c23b0
  try clear c24
  try clear c25
  try clear c27
  try clear c28
  try clear hcz15_0 hcz15_1 hcz15_2
  try clear hcz18_0 hcz18_1 hcz18_2
  try clear hcz26_0 hcz26_1 hcz26_2 hcz26_3
  try clear hcz29_0 hcz29_1 hcz29_2 hcz29_3
  try clear hfz15_0 hfz15_1 hfz15_2
  try clear hfz18_0 hfz18_1 hfz18_2
  try clear hfz26_0 hfz26_1 hfz26_2 hfz26_3
  try clear hfz29_0 hfz29_1 hfz29_2 hfz29_3
  obtain ⟨kq, x38_7, rfl, HA, HJ7, BK1162, BK1163, BK1164, HB⟩ := hcut
  cases kq with
  | zero => exact absurd HA.out (by simp [peloruslaw05_NumBack.j0])
  | succ kj7 =>
   have H := HA.out
   clear HA
   simp only [peloruslaw05_NumBack.j0] at H
   by_cases c30 : x38_7 = true
   ·subst c30
    have H1 : (some t1165) = some r := by rw [if_pos rfl] at H; exact H
    clear H
    have H := H1
    clear H1
    obtain rfl := Option.some.inj H
    go_wp2
    go_ret
    exact ⟨rf_, bw_ HB.out⟩
   ·replace c30 := Bool.eq_false_iff.mpr c30
    subst c30
    have H1 : ((num_Exact.f kj7 a0_0 a0_1 a0_2 a0_3).bind fun bt1168 => (if bt1168.2.2.2 = true then ((num_Round.f kj7 bt1168.1 bt1168.2.1 bt1168.2.2.1 a3).bind fun bt1175 => (peloruslaw05_NumBack.j1 kj7 a3 (!(bt1175.1 == a0_0) || (!(bt1175.2.1 == a0_1) || (!(bt1175.2.2.1 == a0_2) || (!(bt1175.2.2.2 == a0_3))))) a1_0 l1_1 a1_2 a2_0 l2_1 a2_2)) else (peloruslaw05_NumBack.j1 kj7 a3 false a1_0 l1_1 a1_2 a2_0 l2_1 a2_2))) = some r := by rw [if_neg (show ¬ (false = true) by decide)] at H; exact H
    clear H
    have H := H1
    clear H1
    replace H := Option.bind_eq_some_iff.mp H
    obtain ⟨⟨t1168, t1169, t1172, t1173⟩, A310, H⟩ := H
    (try dsimp only at H)
    have A31 := Aside0.mk A310
    clear A310
    have HC32 := Aside0.mk H
    clear H
    have hnb33 := NB1162_1163.out
    have hnc33 := NB1163_1162.out
    have hnb34 := NB1162_1164.out
    have hnc34 := NB1164_1162.out
    obtain ⟨hcz35_0, hcz35_1, hcz35_2, hcz35_3, hfz35_0, hfz35_1, hfz35_2, hfz35_3⟩ := c4_ BK1162
    go_upto_region 7 with (first | ((with_reducible refine gate_callee (f := 25) rfl ?_); refine gl_ (some 42) Tryd.func25 #[.agg #[.int .i64 a0_0, .bool a0_1, .int .u64 a0_2, .int .i64 a0_3]] ?_; (with_reducible refine (num_Exact.calls kj7 a0_0 a0_1 a0_2 a0_3 t1168 t1169 t1172 t1173 _ A31.out ?sidet).mono ?_); (case sidet => exact Kd.C_below HTAB.out (bw_ HB.out)); rintro e w36 ⟨v1170, rfl, ho0, hb⟩; refine ⟨_, rfl, ?_⟩; have HO1171 := Aside0.mk (Kd.R_lower ho0 (below_size (bw_ HB.out))); replace BK1162 := kq_ BK1162 hb; replace BK1163 := kq_ BK1163 hb; replace BK1164 := kq_ BK1164 hb; replace HB := bq_ HB hb; (try clear hb); (try clear hb2); (try clear hk); (try clear hi); (try clear ho0)) | ((with_reducible refine gate_dst (N := 12) rfl ?_); refine bx_ 12 #[.bool false, .slice none 0 0, .int .i64 0] 26 ?_; intro gb1174 hg w37 hbox hb; have BK1174 := Aside0.mk (hbox); have GW1174 := ge_ hg HB; have GE1174 := ge_ hg HB; have NB1162_1174 := nb_ hg BK1162; have NB1174_1162 := nc_ hg BK1162; have NB1163_1174 := nb_ hg BK1163; have NB1174_1163 := nc_ hg BK1163; have NB1164_1174 := nb_ hg BK1164; have NB1174_1164 := nc_ hg BK1164; replace HO1171 := Aside0.mk (Kd.R_below (kr_ HO1171.out) hb); replace BK1162 := kq_ BK1162 hb; replace BK1163 := kq_ BK1163 hb; replace BK1164 := kq_ BK1164 hb; replace HB := bq_ HB hb; clear hb hbox hg; have hnb38 := NB1174_1162.out; have hnc38 := NB1162_1174.out; have hnb39 := NB1174_1163.out; have hnc39 := NB1163_1174.out; have hnb40 := NB1174_1164.out; have hnc40 := NB1164_1174.out; obtain ⟨hcz41_0, hcz41_1, hcz41_2, hfz41_0, hfz41_1, hfz41_2⟩ := c3_ BK1174; obtain ⟨Ao42, co42, eo42⟩ := Kd.R_slice HO1171.out; subst eo42))
    (try simp only [Act.put, List.setIfInBounds_toArray, List.set_cons_zero, List.set_cons_succ])
    go_cut [52] (fun v52 wc => ∃ (kq : Nat) (x52_31 : Bool), v52 = .bool x52_31 ∧ Aside0 (peloruslaw05_NumBack.j1 kq a3 x52_31 a1_0 l1_1 a1_2 a2_0 l2_1 a2_2 = some r) ∧ Aside0 (kq ≤ kj7) ∧ Aside0 (Kd.R (Kd.int .u32) 53 wc w.heap.size (fun _ => True) (.slice Ao42 t1169.length co42) t1169) ∧ Aside0 (wc.heap[gb1162]? = some (.cells #[.int .i64 a0_0, .bool a0_1, .int .u64 a0_2, .int .i64 a0_3] 30 (0, 0))) ∧ Aside0 (wc.heap[gb1163]? = some (.cells #[.bool a1_0, (.slice A1_1 l1_1.length c1_1), .int .i64 a1_2] 26 (0, 0))) ∧ Aside0 (wc.heap[gb1164]? = some (.cells #[.bool a2_0, (.slice A2_1 l2_1.length c2_1), .int .i64 a2_2] 26 (0, 0))) ∧ Aside0 (wc.heap[gb1174]? = some (.cells #[.bool t1168, (.slice Ao42 t1169.length co42), .int .i64 t1172] 26 (0, 0))) ∧ Aside0 (Below w.heap.size w wc))
    case first =>
     have H := HC32.out
     clear HC32
     by_cases c43 : t1173 = true
     ·subst c43
      have H1 : ((num_Round.f kj7 t1168 t1169 t1172 a3).bind fun bt1175 => (peloruslaw05_NumBack.j1 kj7 a3 (!(bt1175.1 == a0_0) || (!(bt1175.2.1 == a0_1) || (!(bt1175.2.2.1 == a0_2) || (!(bt1175.2.2.2 == a0_3))))) a1_0 l1_1 a1_2 a2_0 l2_1 a2_2)) = some r := by rw [if_pos rfl] at H; exact H
      clear H
      have H := H1
      clear H1
      replace H := Option.bind_eq_some_iff.mp H
      obtain ⟨⟨t1175, t1176, t1177, t1178⟩, A440, H⟩ := H
      (try dsimp only at H)
      have A44 := Aside0.mk A440
      clear A440
      have H' := Aside0.mk H
      clear H
      try go_wp2
      have n0_ : Aside0 (Kd.R (Kd.int .u32) 53 (((w37.setCell ⟨gb1174, 0, none⟩ (.bool t1168)).setCell ⟨gb1174, 1, none⟩ (.slice Ao42 t1169.length co42)).setCell ⟨gb1174, 2, none⟩ (.int .i64 t1172)) w.heap.size (fun _ => True) (.slice Ao42 t1169.length co42) t1169) := ⟨by (with_reducible repeat (first | apply Kd.R_alloc | apply Kd.R_drewN | apply Kd.R_drew)); exact Kd.R_mono (Kd.R_far (p := ⟨gb1174, 2, none⟩) (Kd.R_far (p := ⟨gb1174, 1, none⟩) (Kd.R_far (p := ⟨gb1174, 0, none⟩) (Kd.R_types HO1171.out BK1174.out (by decide)) (fun _ hk => hk.2) (.bool t1168)) (fun _ hk => hk.2) (.slice Ao42 t1169.length co42)) (fun _ hk => hk.2) (.int .i64 t1172)) (fun _ hk => trivial)⟩
      have n1_ : Aside0 ((((w37.setCell ⟨gb1174, 0, none⟩ (.bool t1168)).setCell ⟨gb1174, 1, none⟩ (.slice Ao42 t1169.length co42)).setCell ⟨gb1174, 2, none⟩ (.int .i64 t1172)).heap[gb1162]? = some (.cells #[.int .i64 a0_0, .bool a0_1, .int .u64 a0_2, .int .i64 a0_3] 30 (0, 0))) := ⟨by refine kb_ ?_; refine bf_ NB1162_1174 ?_; refine bf_ NB1162_1174 ?_; refine bf_ NB1162_1174 ?_; exact BK1162.out⟩
      have n2_ : Aside0 ((((w37.setCell ⟨gb1174, 0, none⟩ (.bool t1168)).setCell ⟨gb1174, 1, none⟩ (.slice Ao42 t1169.length co42)).setCell ⟨gb1174, 2, none⟩ (.int .i64 t1172)).heap[gb1163]? = some (.cells #[.bool a1_0, .slice A1_1 l1_1.length c1_1, .int .i64 a1_2] 26 (0, 0))) := ⟨by refine kb_ ?_; refine bf_ NB1163_1174 ?_; refine bf_ NB1163_1174 ?_; refine bf_ NB1163_1174 ?_; exact BK1163.out⟩
      have n3_ : Aside0 ((((w37.setCell ⟨gb1174, 0, none⟩ (.bool t1168)).setCell ⟨gb1174, 1, none⟩ (.slice Ao42 t1169.length co42)).setCell ⟨gb1174, 2, none⟩ (.int .i64 t1172)).heap[gb1164]? = some (.cells #[.bool a2_0, .slice A2_1 l2_1.length c2_1, .int .i64 a2_2] 26 (0, 0))) := ⟨by refine kb_ ?_; refine bf_ NB1164_1174 ?_; refine bf_ NB1164_1174 ?_; refine bf_ NB1164_1174 ?_; exact BK1164.out⟩
      have n4_ : Aside0 ((((w37.setCell ⟨gb1174, 0, none⟩ (.bool t1168)).setCell ⟨gb1174, 1, none⟩ (.slice Ao42 t1169.length co42)).setCell ⟨gb1174, 2, none⟩ (.int .i64 t1172)).heap[gb1174]? = some (.cells #[.bool t1168, .slice Ao42 t1169.length co42, .int .i64 t1172] 26 (0, 0))) := ⟨by refine kb_ ?_; refine bp_ #[.bool t1168, .slice Ao42 t1169.length co42, .int .i64 0] 2 ?_; refine bp_ #[.bool t1168, .slice none 0 0, .int .i64 0] 1 ?_; refine bp_ #[.bool false, .slice none 0 0, .int .i64 0] 0 ?_; exact BK1174.out⟩
      have n5_ : Aside0 (Below w.heap.size w (((w37.setCell ⟨gb1174, 0, none⟩ (.bool t1168)).setCell ⟨gb1174, 1, none⟩ (.slice Ao42 t1169.length co42)).setCell ⟨gb1174, 2, none⟩ (.int .i64 t1172))) := ⟨bw_ HB.out⟩
      (try clear HO1171)
      (try clear BK1162)
      (try clear BK1163)
      (try clear BK1164)
      (try clear BK1174)
      (try clear HB)
      generalize (((w37.setCell ⟨gb1174, 0, none⟩ (.bool t1168)).setCell ⟨gb1174, 1, none⟩ (.slice Ao42 t1169.length co42)).setCell ⟨gb1174, 2, none⟩ (.int .i64 t1172)) = w45 at n0_ n1_ n2_ n3_ n4_ n5_ ⊢
      have HO1171 := n0_
      have BK1162 := n1_
      have BK1163 := n2_
      have BK1164 := n3_
      have BK1174 := n4_
      have HB := n5_
      clear n0_ n1_ n2_ n3_ n4_ n5_
      replace HO1171 := Aside0.mk (Kd.R_drew HO1171.out)
      replace BK1162 := Aside0.mk (blk_drew BK1162.out)
      replace BK1163 := Aside0.mk (blk_drew BK1163.out)
      replace BK1164 := Aside0.mk (blk_drew BK1164.out)
      replace BK1174 := Aside0.mk (blk_drew BK1174.out)
      replace HB := Aside0.mk (below_drew1 HB.out)
      refine start_ (n := 8) (S := fun w' => w'.cell? ⟨gb1174, 0, none⟩ = some (.bool t1168) ∧ w'.cell? ⟨gb1174, 1, none⟩ = some (.slice Ao42 t1169.length co42) ∧ w'.cell? ⟨gb1174, 2, none⟩ = some (.int .i64 t1172) ∧ w'.cell? ⟨gb1162, 0, none⟩ = some (.int .i64 a0_0) ∧ w'.cell? ⟨gb1162, 1, none⟩ = some (.bool a0_1) ∧ w'.cell? ⟨gb1162, 2, none⟩ = some (.int .u64 a0_2) ∧ w'.cell? ⟨gb1162, 3, none⟩ = some (.int .i64 a0_3)) (ds := []) #[false, false, false, false, false, false, false, false] (by kernel_rfl) rfl rfl ⟨(blk_cell BK1174.out 0).trans rfl, (blk_cell BK1174.out 1).trans rfl, (blk_cell BK1174.out 2).trans rfl, (blk_cell BK1162.out 0).trans rfl, (blk_cell BK1162.out 1).trans rfl, (blk_cell BK1162.out 2).trans rfl, (blk_cell BK1162.out 3).trans rfl⟩ (fun hHeld => ?_); refine with_tabW peloruslaw05_NumBack.tab7 peloruslaw05_NumBack.bits7 (fun HT_ HW_ => ?_)
      generalize w45.drew = w46 at HO1171 BK1162 BK1163 BK1164 BK1174 HB hHeld ⊢
      refine pure_ (i := 0) (N := some 45) (v := ?_) (a' := ?_) #[true, false, false, false, false, false, false, false] rfl rfl (any_of HT_.out (by kernel_rfl)) (fun _ _ _ h => h) (Or.inl ⟨by rfl, ?_⟩) ?_ ?_
      rotate_left
      ·intro w'
       go_simp
       with_reducible rfl
      rotate_left
      ·exact pt_
      refine pure_ (i := 1) (N := some 46) (v := ?_) (a' := ?_) #[true, true, false, false, false, false, false, false] rfl rfl (any_of HT_.out (by kernel_rfl)) (fun _ _ _ h => h) (Or.inl ⟨by rfl, ?_⟩) ?_ ?_
      rotate_left
      ·intro w'
       go_simp
       with_reducible rfl
      rotate_left
      ·exact pt_
      refine pure_ (i := 3) (N := some 48) (v := ?_) (a' := ?_) #[true, true, false, true, false, false, false, false] rfl rfl (any_of HT_.out (by kernel_rfl)) (fun _ _ _ h => h) (Or.inl ⟨by rfl, ?_⟩) ?_ ?_
      rotate_left
      ·intro w'
       go_simp
       with_reducible rfl
      rotate_left
      ·exact pt_
      refine take_ (i := 2) (N := some 47) (v := ?_) (a' := ?_) #[true, true, true, true, false, false, false, false] rfl rfl (take_ofW HT_.out HW_.out (by kernel_rfl)) (fun _ _ _ h => h) (Or.inl ⟨by rfl, ?_⟩) hHeld ?_ ?_
      rotate_left
      ·rintro w' ⟨s0, s1, s2, s3, s4, s5, s6⟩
       go_simp
       with_reducible rfl
      rotate_left
      ·exact pt_
      refine take_ (i := 5) (N := some 50) (v := ?_) (a' := ?_) #[true, true, true, true, false, true, false, false] rfl rfl (take_ofW HT_.out HW_.out (by kernel_rfl)) (fun _ _ _ h => h) (Or.inl ⟨by rfl, ?_⟩) hHeld ?_ ?_
      rotate_left
      ·rintro w' ⟨s0, s1, s2, s3, s4, s5, s6⟩
       go_simp
       with_reducible rfl
      rotate_left
      ·exact pt_
      refine one_ (i := 4) (N := some 49) #[true, true, true, true, true, true, false, false] rfl rfl (one_of HT_.out (by kernel_rfl)) (by decide) (fun K hK => ?_)
      refine gs_ Tryd.func12 #[.agg #[.bool t1168, .slice Ao42 t1169.length co42, .int .i64 t1172], .bool a3] ?_
      with_reducible refine (num_Round.calls kj7 t1168 _ _ t1169 t1172 a3 t1175 t1176 t1177 t1178 _ ?side1 ?side2 A44.out ?sidet).mono ?_
      (case sidet => exact Kd.C_below HTAB.out (bw_ HB.out))
      (case side1 => exact kc_ (Kd.R_reads' HO1171.out).2.2)
      (case side2 => exact (Kd.R_reads' HO1171.out).2.1)
      rintro e w47 ⟨rfl, hb⟩
      refine ⟨_, rfl, ?_⟩
      replace HO1171 := Aside0.mk (Kd.R_below (kr_ HO1171.out) hb)
      replace BK1162 := kq_ BK1162 hb
      replace BK1163 := kq_ BK1163 hb
      replace BK1164 := kq_ BK1164 hb
      replace BK1174 := kq_ BK1174 hb
      replace HB := bq_ HB hb
      (try clear hb)
      (try clear hb2)
      (try clear hk)
      (try clear hi)
      refine hK.out _ _ ⟨(blk_cell BK1174.out 0).trans rfl, (blk_cell BK1174.out 1).trans rfl, (blk_cell BK1174.out 2).trans rfl, (blk_cell BK1162.out 0).trans rfl, (blk_cell BK1162.out 1).trans rfl, (blk_cell BK1162.out 2).trans rfl, (blk_cell BK1162.out 3).trans rfl⟩ (fun hHeld => ?_)
      clear hK K
      refine norm_ (a' := ?_) ?_ ?_
      rotate_left
      ·show Act.put _ (some 49) _ = _
       exact pt_
      refine pure_ (i := 6) (N := some 51) (v := ?_) (a' := ?_) #[true, true, true, true, true, true, true, false] rfl rfl (any_of HT_.out (by kernel_rfl)) (fun _ _ _ h => h) (Or.inl ⟨by rfl, ?_⟩) ?_ ?_
      rotate_left
      ·intro w'
       go_simp
       with_reducible rfl
      rotate_left
      ·exact pt_
      refine pure_ (i := 7) (N := some 52) (v := ?_) (a' := ?_) #[true, true, true, true, true, true, true, true] rfl rfl (any_of HT_.out (by kernel_rfl)) (fun _ _ _ h => h) (Or.inl ⟨by rfl, ?_⟩) ?_ ?_
      rotate_left
      ·intro w'
       go_simp
       with_reducible rfl
      rotate_left
      ·exact pt_
      refine done_ (done_of HT_.out (by kernel_rfl)) ?_
      try go_wp2
      go_meet
      case rel => exact ⟨_, ((!(t1175 == a0_0) || (!(t1176 == a0_1) || (!(t1177 == a0_2) || (!(t1178 == a0_3)))))), (by first | rfl | (simp; done) | (simp [*]; done)), H', ⟨by have := HJ7.out; first | omega | exact Nat.le_refl _⟩, ⟨by (with_reducible repeat (first | apply Kd.R_alloc | apply Kd.R_drewN | apply Kd.R_drew)); exact HO1171.out⟩, ⟨kb_ BK1162.out⟩, ⟨kb_ BK1163.out⟩, ⟨kb_ BK1164.out⟩, ⟨kb_ BK1174.out⟩, ⟨bw_ HB.out⟩⟩
     ·replace c43 := Bool.eq_false_iff.mpr c43
      subst c43
      have H1 : (peloruslaw05_NumBack.j1 kj7 a3 false a1_0 l1_1 a1_2 a2_0 l2_1 a2_2) = some r := by rw [if_neg (show ¬ (false = true) by decide)] at H; exact H
      clear H
      have H := H1
      clear H1
      have H' := Aside0.mk H
      clear H
      try go_wp2
      have n0_ : Aside0 (Kd.R (Kd.int .u32) 53 (((w37.setCell ⟨gb1174, 0, none⟩ (.bool t1168)).setCell ⟨gb1174, 1, none⟩ (.slice Ao42 t1169.length co42)).setCell ⟨gb1174, 2, none⟩ (.int .i64 t1172)) w.heap.size (fun _ => True) (.slice Ao42 t1169.length co42) t1169) := ⟨by (with_reducible repeat (first | apply Kd.R_alloc | apply Kd.R_drewN | apply Kd.R_drew)); exact Kd.R_mono (Kd.R_far (p := ⟨gb1174, 2, none⟩) (Kd.R_far (p := ⟨gb1174, 1, none⟩) (Kd.R_far (p := ⟨gb1174, 0, none⟩) (Kd.R_types HO1171.out BK1174.out (by decide)) (fun _ hk => hk.2) (.bool t1168)) (fun _ hk => hk.2) (.slice Ao42 t1169.length co42)) (fun _ hk => hk.2) (.int .i64 t1172)) (fun _ hk => trivial)⟩
      have n1_ : Aside0 ((((w37.setCell ⟨gb1174, 0, none⟩ (.bool t1168)).setCell ⟨gb1174, 1, none⟩ (.slice Ao42 t1169.length co42)).setCell ⟨gb1174, 2, none⟩ (.int .i64 t1172)).heap[gb1162]? = some (.cells #[.int .i64 a0_0, .bool a0_1, .int .u64 a0_2, .int .i64 a0_3] 30 (0, 0))) := ⟨by refine kb_ ?_; refine bf_ NB1162_1174 ?_; refine bf_ NB1162_1174 ?_; refine bf_ NB1162_1174 ?_; exact BK1162.out⟩
      have n2_ : Aside0 ((((w37.setCell ⟨gb1174, 0, none⟩ (.bool t1168)).setCell ⟨gb1174, 1, none⟩ (.slice Ao42 t1169.length co42)).setCell ⟨gb1174, 2, none⟩ (.int .i64 t1172)).heap[gb1163]? = some (.cells #[.bool a1_0, .slice A1_1 l1_1.length c1_1, .int .i64 a1_2] 26 (0, 0))) := ⟨by refine kb_ ?_; refine bf_ NB1163_1174 ?_; refine bf_ NB1163_1174 ?_; refine bf_ NB1163_1174 ?_; exact BK1163.out⟩
      have n3_ : Aside0 ((((w37.setCell ⟨gb1174, 0, none⟩ (.bool t1168)).setCell ⟨gb1174, 1, none⟩ (.slice Ao42 t1169.length co42)).setCell ⟨gb1174, 2, none⟩ (.int .i64 t1172)).heap[gb1164]? = some (.cells #[.bool a2_0, .slice A2_1 l2_1.length c2_1, .int .i64 a2_2] 26 (0, 0))) := ⟨by refine kb_ ?_; refine bf_ NB1164_1174 ?_; refine bf_ NB1164_1174 ?_; refine bf_ NB1164_1174 ?_; exact BK1164.out⟩
      have n4_ : Aside0 ((((w37.setCell ⟨gb1174, 0, none⟩ (.bool t1168)).setCell ⟨gb1174, 1, none⟩ (.slice Ao42 t1169.length co42)).setCell ⟨gb1174, 2, none⟩ (.int .i64 t1172)).heap[gb1174]? = some (.cells #[.bool t1168, .slice Ao42 t1169.length co42, .int .i64 t1172] 26 (0, 0))) := ⟨by refine kb_ ?_; refine bp_ #[.bool t1168, .slice Ao42 t1169.length co42, .int .i64 0] 2 ?_; refine bp_ #[.bool t1168, .slice none 0 0, .int .i64 0] 1 ?_; refine bp_ #[.bool false, .slice none 0 0, .int .i64 0] 0 ?_; exact BK1174.out⟩
      have n5_ : Aside0 (Below w.heap.size w (((w37.setCell ⟨gb1174, 0, none⟩ (.bool t1168)).setCell ⟨gb1174, 1, none⟩ (.slice Ao42 t1169.length co42)).setCell ⟨gb1174, 2, none⟩ (.int .i64 t1172))) := ⟨bw_ HB.out⟩
      (try clear HO1171)
      (try clear BK1162)
      (try clear BK1163)
      (try clear BK1164)
      (try clear BK1174)
      (try clear HB)
      generalize (((w37.setCell ⟨gb1174, 0, none⟩ (.bool t1168)).setCell ⟨gb1174, 1, none⟩ (.slice Ao42 t1169.length co42)).setCell ⟨gb1174, 2, none⟩ (.int .i64 t1172)) = w48 at n0_ n1_ n2_ n3_ n4_ n5_ ⊢
      have HO1171 := n0_
      have BK1162 := n1_
      have BK1163 := n2_
      have BK1164 := n3_
      have BK1174 := n4_
      have HB := n5_
      clear n0_ n1_ n2_ n3_ n4_ n5_
      replace HO1171 := Aside0.mk (Kd.R_drew HO1171.out)
      replace BK1162 := Aside0.mk (blk_drew BK1162.out)
      replace BK1163 := Aside0.mk (blk_drew BK1163.out)
      replace BK1164 := Aside0.mk (blk_drew BK1164.out)
      replace BK1174 := Aside0.mk (blk_drew BK1174.out)
      replace HB := Aside0.mk (below_drew1 HB.out)
      refine start_ (n := 8) (S := fun w' => True) (ds := []) #[false, false, false, false, false, false, false, false] (by kernel_rfl) rfl rfl trivial (fun hHeld => ?_); refine with_tabW peloruslaw05_NumBack.tab7 peloruslaw05_NumBack.bits7 (fun HT_ HW_ => ?_)
      generalize w48.drew = w49 at HO1171 BK1162 BK1163 BK1164 BK1174 HB hHeld ⊢
      refine pure_ (i := 0) (N := some 45) (v := ?_) (a' := ?_) #[true, false, false, false, false, false, false, false] rfl rfl (any_of HT_.out (by kernel_rfl)) (fun _ _ _ h => h) (Or.inl ⟨by rfl, ?_⟩) ?_ ?_
      rotate_left
      ·intro w'
       go_simp
       with_reducible rfl
      rotate_left
      ·exact pt_
      refine pure_ (i := 1) (N := some 46) (v := ?_) (a' := ?_) #[true, true, false, false, false, false, false, false] rfl rfl (any_of HT_.out (by kernel_rfl)) (fun _ _ _ h => h) (Or.inl ⟨by rfl, ?_⟩) ?_ ?_
      rotate_left
      ·intro w'
       go_simp
       with_reducible rfl
      rotate_left
      ·exact pt_
      refine pure_ (i := 2) (N := some 47) (v := undef) (a' := ?_) #[true, true, true, false, false, false, false, false] rfl rfl (any_of HT_.out (by kernel_rfl)) (fun _ _ _ h => h) (Or.inr ⟨by rfl, rfl⟩) ?_ ?_
      rotate_left
      ·exact pt_
      refine pure_ (i := 3) (N := some 48) (v := undef) (a' := ?_) #[true, true, true, true, false, false, false, false] rfl rfl (any_of HT_.out (by kernel_rfl)) (fun _ _ _ h => h) (Or.inr ⟨by rfl, rfl⟩) ?_ ?_
      rotate_left
      ·exact pt_
      refine pure_ (i := 4) (N := some 49) (v := undef) (a' := ?_) #[true, true, true, true, true, false, false, false] rfl rfl (any_of HT_.out (by kernel_rfl)) (fun _ _ _ h => h) (Or.inr ⟨by rfl, rfl⟩) ?_ ?_
      rotate_left
      ·exact pt_
      refine pure_ (i := 5) (N := some 50) (v := undef) (a' := ?_) #[true, true, true, true, true, true, false, false] rfl rfl (any_of HT_.out (by kernel_rfl)) (fun _ _ _ h => h) (Or.inr ⟨by rfl, rfl⟩) ?_ ?_
      rotate_left
      ·exact pt_
      refine pure_ (i := 6) (N := some 51) (v := undef) (a' := ?_) #[true, true, true, true, true, true, true, false] rfl rfl (any_of HT_.out (by kernel_rfl)) (fun _ _ _ h => h) (Or.inr ⟨by rfl, rfl⟩) ?_ ?_
      rotate_left
      ·exact pt_
      refine pure_ (i := 7) (N := some 52) (v := ?_) (a' := ?_) #[true, true, true, true, true, true, true, true] rfl rfl (any_of HT_.out (by kernel_rfl)) (fun _ _ _ h => h) (Or.inl ⟨by rfl, ?_⟩) ?_ ?_
      rotate_left
      ·intro w'
       go_simp
       with_reducible rfl
      rotate_left
      ·exact pt_
      refine done_ (done_of HT_.out (by kernel_rfl)) ?_
      try go_wp2
      go_meet
      case rel => exact ⟨_, (false), (by first | rfl | (simp; done) | (simp [*]; done)), H', ⟨by have := HJ7.out; first | omega | exact Nat.le_refl _⟩, ⟨by (with_reducible repeat (first | apply Kd.R_alloc | apply Kd.R_drewN | apply Kd.R_drew)); exact HO1171.out⟩, ⟨kb_ BK1162.out⟩, ⟨kb_ BK1163.out⟩, ⟨kb_ BK1164.out⟩, ⟨kb_ BK1174.out⟩, ⟨bw_ HB.out⟩⟩
    case rest =>
     clear HC32
     try clear c1
     try clear c2
     try clear p2
     try clear c3
     try clear c4
     try clear c10
     try clear c11
     try clear c12
     try clear c13
     try clear c14
     try clear c17
     try clear c20
     try clear c21
     try clear c22
     try clear c23
     try clear c23b0
     try clear c24
     try clear c25
     try clear c27
     try clear c28
     try clear c30
     try clear c33
     try clear c34
     try clear c35
     try clear c38
     try clear c39
     try clear c40
     try clear c43
     try clear hcz15_0 hcz15_1 hcz15_2
     try clear hcz18_0 hcz18_1 hcz18_2
     try clear hcz26_0 hcz26_1 hcz26_2 hcz26_3
     try clear hcz29_0 hcz29_1 hcz29_2 hcz29_3
     try clear hcz35_0 hcz35_1 hcz35_2 hcz35_3
     try clear hcz41_0 hcz41_1 hcz41_2
     try clear hfz15_0 hfz15_1 hfz15_2
     try clear hfz18_0 hfz18_1 hfz18_2
     try clear hfz26_0 hfz26_1 hfz26_2 hfz26_3
     try clear hfz29_0 hfz29_1 hfz29_2 hfz29_3
     try clear hfz35_0 hfz35_1 hfz35_2 hfz35_3
     try clear hfz41_0 hfz41_1 hfz41_2
     try clear p2
     obtain ⟨kq, x52_31, rfl, HA, HJ31, HO_1175001, BK1162, BK1163, BK1164, BK1174, HB⟩ := hcut
     cases kq with
     | zero => exact absurd HA.out (by simp [peloruslaw05_NumBack.j1])
     | succ kj31 =>
      have H := HA.out
      clear HA
      simp only [peloruslaw05_NumBack.j1] at H
      by_cases c50 : x52_31 = true
      ·subst c50
       have H1 : (some false) = some r := by rw [if_pos rfl] at H; exact H
       clear H
       have H := H1
       clear H1
       exact absurd ((Option.some.inj H).trans HRT_.out) (by simp)
      ·replace c50 := Bool.eq_false_iff.mpr c50
       subst c50
       have H1 : ((dy_Cmp.f kj31 a1_0 l1_1 a1_2 a2_0 l2_1 a2_2).bind fun t1179 => (if t1179 > 0 then (some true) else ((num_Round.f kj31 a1_0 l1_1 a1_2 a3).bind fun bt1180 => ((num_Round.f kj31 a2_0 l2_1 a2_2 a3).bind fun bt1184 => ((num_Cmp.f bt1180.1 bt1180.2.1 bt1180.2.2.1 bt1180.2.2.2 bt1184.1 bt1184.2.1 bt1184.2.2.1 bt1184.2.2.2).bind fun t1188 => (some (decide (t1188 ≤ 0)))))))) = some r := by rw [if_neg (show ¬ (false = true) by decide)] at H; exact H
       clear H
       have H := H1
       clear H1
       replace H := Option.bind_eq_some_iff.mp H
       obtain ⟨t1179, A510, H⟩ := H
       (try dsimp only at H)
       have A51 := Aside0.mk A510
       clear A510
       by_cases c52 : t1179 > 0
       ·rw [if_pos c52] at H
        have c52b0 : decide (0 < t1179) = true := decide_eq_true c52
        clear c52
        obtain rfl := Option.some.inj H
        try go_wp2
        replace HO_1175001 := Aside0.mk (Kd.R_drew HO_1175001.out)
        replace BK1162 := Aside0.mk (blk_drew BK1162.out)
        replace BK1163 := Aside0.mk (blk_drew BK1163.out)
        replace BK1164 := Aside0.mk (blk_drew BK1164.out)
        replace BK1174 := Aside0.mk (blk_drew BK1174.out)
        replace HB := Aside0.mk (below_drew1 HB.out)
        refine start_ (n := 15) (S := fun w' => w'.cell? ⟨gb1163, 0, none⟩ = some (.bool a1_0) ∧ w'.cell? ⟨gb1163, 1, none⟩ = some (.slice A1_1 l1_1.length c1_1) ∧ w'.cell? ⟨gb1163, 2, none⟩ = some (.int .i64 a1_2) ∧ w'.cell? ⟨gb1164, 0, none⟩ = some (.bool a2_0) ∧ w'.cell? ⟨gb1164, 1, none⟩ = some (.slice A2_1 l2_1.length c2_1) ∧ w'.cell? ⟨gb1164, 2, none⟩ = some (.int .i64 a2_2)) (ds := []) #[false, false, false, false, false, false, false, false, false, false, false, false, false, false, false] (by kernel_rfl) rfl rfl ⟨(blk_cell BK1163.out 0).trans rfl, (blk_cell BK1163.out 1).trans rfl, (blk_cell BK1163.out 2).trans rfl, (blk_cell BK1164.out 0).trans rfl, (blk_cell BK1164.out 1).trans rfl, (blk_cell BK1164.out 2).trans rfl⟩ (fun hHeld => ?_); refine with_tabW peloruslaw05_NumBack.tab9 peloruslaw05_NumBack.bits9 (fun HT_ HW_ => ?_)
        generalize wc.drew = w53 at HO_1175001 BK1162 BK1163 BK1164 BK1174 HB hHeld ⊢
        refine take_ (i := 0) (N := some 53) (v := ?_) (a' := ?_) #[true, false, false, false, false, false, false, false, false, false, false, false, false, false, false] rfl rfl (take_ofW HT_.out HW_.out (by kernel_rfl)) (fun _ _ _ h => h) (Or.inl ⟨by rfl, ?_⟩) hHeld ?_ ?_
        rotate_left
        ·rintro w' ⟨s0, s1, s2, s3, s4, s5⟩
         go_simp
         with_reducible rfl
        rotate_left
        ·exact pt_
        refine take_ (i := 1) (N := some 54) (v := ?_) (a' := ?_) #[true, true, false, false, false, false, false, false, false, false, false, false, false, false, false] rfl rfl (take_ofW HT_.out HW_.out (by kernel_rfl)) (fun _ _ _ h => h) (Or.inl ⟨by rfl, ?_⟩) hHeld ?_ ?_
        rotate_left
        ·rintro w' ⟨s0, s1, s2, s3, s4, s5⟩
         go_simp
         with_reducible rfl
        rotate_left
        ·exact pt_
        refine one_ (i := 2) (N := some 55) #[true, true, true, false, false, false, false, false, false, false, false, false, false, false, false] rfl rfl (one_of HT_.out (by kernel_rfl)) (by decide) (fun K hK => ?_)
        refine gs_ Tryd.func36 #[.agg #[.bool a1_0, .slice A1_1 l1_1.length c1_1, .int .i64 a1_2], .agg #[.bool a2_0, .slice A2_1 l2_1.length c2_1, .int .i64 a2_2]] ?_
        with_reducible refine (dy_Cmp.calls kj31 a1_0 _ _ l1_1 a1_2 a2_0 _ _ l2_1 a2_2 t1179 _ ?side1 ?side2 ?side3 ?side4 A51.out ?sidet).mono ?_
        (case sidet => exact Kd.C_below HTAB.out (bw_ HB.out))
        (case side1 => exact kc_ (Kd.C_below HR1_1.out HB.out))
        (case side2 => exact HC1_1.out)
        (case side3 => exact kc_ (Kd.C_below HR2_1.out HB.out))
        (case side4 => exact HC2_1.out)
        rintro e w54 ⟨rfl, hb⟩
        refine ⟨_, rfl, ?_⟩
        replace HO_1175001 := Aside0.mk (Kd.R_below (kr_ HO_1175001.out) hb)
        replace BK1162 := kq_ BK1162 hb
        replace BK1163 := kq_ BK1163 hb
        replace BK1164 := kq_ BK1164 hb
        replace BK1174 := kq_ BK1174 hb
        replace HB := bq_ HB hb
        (try clear hb)
        (try clear hb2)
        (try clear hk)
        (try clear hi)
        refine hK.out _ _ ⟨(blk_cell BK1163.out 0).trans rfl, (blk_cell BK1163.out 1).trans rfl, (blk_cell BK1163.out 2).trans rfl, (blk_cell BK1164.out 0).trans rfl, (blk_cell BK1164.out 1).trans rfl, (blk_cell BK1164.out 2).trans rfl⟩ (fun hHeld => ?_)
        clear hK K
        refine norm_ (a' := ?_) ?_ ?_
        rotate_left
        ·show Act.put _ (some 55) _ = _
         exact pt_
        refine pure_ (i := 3) (N := some 56) (v := ?_) (a' := ?_) #[true, true, true, true, false, false, false, false, false, false, false, false, false, false, false] rfl rfl (any_of HT_.out (by kernel_rfl)) (fun _ _ _ h => h) (Or.inl ⟨by rfl, ?_⟩) ?_ ?_
        rotate_left
        ·intro w'
         go_simp
         with_reducible rfl
        rotate_left
        ·exact pt_
        refine pure_ (i := 4) (N := some 57) (v := ?_) (a' := ?_) #[true, true, true, true, true, false, false, false, false, false, false, false, false, false, false] rfl rfl (any_of HT_.out (by kernel_rfl)) (fun _ _ _ h => h) (Or.inl ⟨by rfl, ?_⟩) ?_ ?_
        rotate_left
        ·intro w'
         go_simp
         with_reducible rfl
        rotate_left
        ·exact pt_
        refine pure_ (i := 5) (N := some 58) (v := undef) (a' := ?_) #[true, true, true, true, true, true, false, false, false, false, false, false, false, false, false] rfl rfl (any_of HT_.out (by kernel_rfl)) (fun _ _ _ h => h) (Or.inr ⟨by rfl, rfl⟩) ?_ ?_
        rotate_left
        ·exact pt_
        refine pure_ (i := 6) (N := some 59) (v := undef) (a' := ?_) #[true, true, true, true, true, true, true, false, false, false, false, false, false, false, false] rfl rfl (any_of HT_.out (by kernel_rfl)) (fun _ _ _ h => h) (Or.inr ⟨by rfl, rfl⟩) ?_ ?_
        rotate_left
        ·exact pt_
        refine pure_ (i := 7) (N := some 60) (v := undef) (a' := ?_) #[true, true, true, true, true, true, true, true, false, false, false, false, false, false, false] rfl rfl (any_of HT_.out (by kernel_rfl)) (fun _ _ _ h => h) (Or.inr ⟨by rfl, rfl⟩) ?_ ?_
        rotate_left
        ·exact pt_
        refine pure_ (i := 8) (N := some 61) (v := undef) (a' := ?_) #[true, true, true, true, true, true, true, true, true, false, false, false, false, false, false] rfl rfl (any_of HT_.out (by kernel_rfl)) (fun _ _ _ h => h) (Or.inr ⟨by rfl, rfl⟩) ?_ ?_
        rotate_left
        ·exact pt_
        refine pure_ (i := 9) (N := some 62) (v := undef) (a' := ?_) #[true, true, true, true, true, true, true, true, true, true, false, false, false, false, false] rfl rfl (any_of HT_.out (by kernel_rfl)) (fun _ _ _ h => h) (Or.inr ⟨by rfl, rfl⟩) ?_ ?_
        rotate_left
        ·exact pt_
        refine pure_ (i := 10) (N := some 63) (v := undef) (a' := ?_) #[true, true, true, true, true, true, true, true, true, true, true, false, false, false, false] rfl rfl (any_of HT_.out (by kernel_rfl)) (fun _ _ _ h => h) (Or.inr ⟨by rfl, rfl⟩) ?_ ?_
        rotate_left
        ·exact pt_
        refine pure_ (i := 11) (N := some 64) (v := undef) (a' := ?_) #[true, true, true, true, true, true, true, true, true, true, true, true, false, false, false] rfl rfl (any_of HT_.out (by kernel_rfl)) (fun _ _ _ h => h) (Or.inr ⟨by rfl, rfl⟩) ?_ ?_
        rotate_left
        ·exact pt_
        refine pure_ (i := 12) (N := some 65) (v := undef) (a' := ?_) #[true, true, true, true, true, true, true, true, true, true, true, true, true, false, false] rfl rfl (any_of HT_.out (by kernel_rfl)) (fun _ _ _ h => h) (Or.inr ⟨by rfl, rfl⟩) ?_ ?_
        rotate_left
        ·exact pt_
        refine pure_ (i := 13) (N := some 66) (v := ?_) (a' := ?_) #[true, true, true, true, true, true, true, true, true, true, true, true, true, true, false] rfl rfl (any_of HT_.out (by kernel_rfl)) (fun _ _ _ h => h) (Or.inl ⟨by rfl, ?_⟩) ?_ ?_
        rotate_left
        ·intro w'
         go_simp
         with_reducible rfl
        rotate_left
        ·exact pt_
        refine pure_ (i := 14) (N := some 8) (v := ?_) (a' := ?_) #[true, true, true, true, true, true, true, true, true, true, true, true, true, true, true] rfl rfl (any_of HT_.out (by kernel_rfl)) (fun _ _ _ h => h) (Or.inl ⟨by rfl, ?_⟩) ?_ ?_
        rotate_left
        ·intro w'
         go_simp
         with_reducible rfl
        rotate_left
        ·exact pt_
        refine done_ (done_of HT_.out (by kernel_rfl)) ?_
        try go_wp2
        go_ret
        exact ⟨rf_, bw_ HB.out⟩
       ·rw [if_neg c52] at H
        have c52b0 : decide (0 < t1179) = false := decide_eq_false c52
        clear c52
        replace H := Option.bind_eq_some_iff.mp H
        obtain ⟨⟨t1180, t1181, t1182, t1183⟩, A550, H⟩ := H
        (try dsimp only at H)
        have A55 := Aside0.mk A550
        clear A550
        replace H := Option.bind_eq_some_iff.mp H
        obtain ⟨⟨t1184, t1185, t1186, t1187⟩, A560, H⟩ := H
        (try dsimp only at H)
        have A56 := Aside0.mk A560
        clear A560
        replace H := Option.bind_eq_some_iff.mp H
        obtain ⟨t1188, A570, H⟩ := H
        (try dsimp only at H)
        have A57 := Aside0.mk A570
        clear A570
        obtain rfl := Option.some.inj H
        try go_wp2
        replace HO_1175001 := Aside0.mk (Kd.R_drew HO_1175001.out)
        replace BK1162 := Aside0.mk (blk_drew BK1162.out)
        replace BK1163 := Aside0.mk (blk_drew BK1163.out)
        replace BK1164 := Aside0.mk (blk_drew BK1164.out)
        replace BK1174 := Aside0.mk (blk_drew BK1174.out)
        replace HB := Aside0.mk (below_drew1 HB.out)
        refine start_ (n := 15) (S := fun w' => w'.cell? ⟨gb1163, 0, none⟩ = some (.bool a1_0) ∧ w'.cell? ⟨gb1163, 1, none⟩ = some (.slice A1_1 l1_1.length c1_1) ∧ w'.cell? ⟨gb1163, 2, none⟩ = some (.int .i64 a1_2) ∧ w'.cell? ⟨gb1164, 0, none⟩ = some (.bool a2_0) ∧ w'.cell? ⟨gb1164, 1, none⟩ = some (.slice A2_1 l2_1.length c2_1) ∧ w'.cell? ⟨gb1164, 2, none⟩ = some (.int .i64 a2_2)) (ds := []) #[false, false, false, false, false, false, false, false, false, false, false, false, false, false, false] (by kernel_rfl) rfl rfl ⟨(blk_cell BK1163.out 0).trans rfl, (blk_cell BK1163.out 1).trans rfl, (blk_cell BK1163.out 2).trans rfl, (blk_cell BK1164.out 0).trans rfl, (blk_cell BK1164.out 1).trans rfl, (blk_cell BK1164.out 2).trans rfl⟩ (fun hHeld => ?_); refine with_tabW peloruslaw05_NumBack.tab9 peloruslaw05_NumBack.bits9 (fun HT_ HW_ => ?_)
        generalize wc.drew = w58 at HO_1175001 BK1162 BK1163 BK1164 BK1174 HB hHeld ⊢
        refine take_ (i := 0) (N := some 53) (v := ?_) (a' := ?_) #[true, false, false, false, false, false, false, false, false, false, false, false, false, false, false] rfl rfl (take_ofW HT_.out HW_.out (by kernel_rfl)) (fun _ _ _ h => h) (Or.inl ⟨by rfl, ?_⟩) hHeld ?_ ?_
        rotate_left
        ·rintro w' ⟨s0, s1, s2, s3, s4, s5⟩
         go_simp
         with_reducible rfl
        rotate_left
        ·exact pt_
        refine take_ (i := 1) (N := some 54) (v := ?_) (a' := ?_) #[true, true, false, false, false, false, false, false, false, false, false, false, false, false, false] rfl rfl (take_ofW HT_.out HW_.out (by kernel_rfl)) (fun _ _ _ h => h) (Or.inl ⟨by rfl, ?_⟩) hHeld ?_ ?_
        rotate_left
        ·rintro w' ⟨s0, s1, s2, s3, s4, s5⟩
         go_simp
         with_reducible rfl
        rotate_left
        ·exact pt_
        refine one_ (i := 2) (N := some 55) #[true, true, true, false, false, false, false, false, false, false, false, false, false, false, false] rfl rfl (one_of HT_.out (by kernel_rfl)) (by decide) (fun K hK => ?_)
        refine gs_ Tryd.func36 #[.agg #[.bool a1_0, .slice A1_1 l1_1.length c1_1, .int .i64 a1_2], .agg #[.bool a2_0, .slice A2_1 l2_1.length c2_1, .int .i64 a2_2]] ?_
        with_reducible refine (dy_Cmp.calls kj31 a1_0 _ _ l1_1 a1_2 a2_0 _ _ l2_1 a2_2 t1179 _ ?side1 ?side2 ?side3 ?side4 A51.out ?sidet).mono ?_
        (case sidet => exact Kd.C_below HTAB.out (bw_ HB.out))
        (case side1 => exact kc_ (Kd.C_below HR1_1.out HB.out))
        (case side2 => exact HC1_1.out)
        (case side3 => exact kc_ (Kd.C_below HR2_1.out HB.out))
        (case side4 => exact HC2_1.out)
        rintro e w59 ⟨rfl, hb⟩
        refine ⟨_, rfl, ?_⟩
        replace HO_1175001 := Aside0.mk (Kd.R_below (kr_ HO_1175001.out) hb)
        replace BK1162 := kq_ BK1162 hb
        replace BK1163 := kq_ BK1163 hb
        replace BK1164 := kq_ BK1164 hb
        replace BK1174 := kq_ BK1174 hb
        replace HB := bq_ HB hb
        (try clear hb)
        (try clear hb2)
        (try clear hk)
        (try clear hi)
        refine hK.out _ _ ⟨(blk_cell BK1163.out 0).trans rfl, (blk_cell BK1163.out 1).trans rfl, (blk_cell BK1163.out 2).trans rfl, (blk_cell BK1164.out 0).trans rfl, (blk_cell BK1164.out 1).trans rfl, (blk_cell BK1164.out 2).trans rfl⟩ (fun hHeld => ?_)
        clear hK K
        refine norm_ (a' := ?_) ?_ ?_
        rotate_left
        ·show Act.put _ (some 55) _ = _
         exact pt_
        refine pure_ (i := 3) (N := some 56) (v := ?_) (a' := ?_) #[true, true, true, true, false, false, false, false, false, false, false, false, false, false, false] rfl rfl (any_of HT_.out (by kernel_rfl)) (fun _ _ _ h => h) (Or.inl ⟨by rfl, ?_⟩) ?_ ?_
        rotate_left
        ·intro w'
         go_simp
         with_reducible rfl
        rotate_left
        ·exact pt_
        refine pure_ (i := 4) (N := some 57) (v := ?_) (a' := ?_) #[true, true, true, true, true, false, false, false, false, false, false, false, false, false, false] rfl rfl (any_of HT_.out (by kernel_rfl)) (fun _ _ _ h => h) (Or.inl ⟨by rfl, ?_⟩) ?_ ?_
        rotate_left
        ·intro w'
         go_simp
         with_reducible rfl
        rotate_left
        ·exact pt_
        refine pure_ (i := 6) (N := some 59) (v := ?_) (a' := ?_) #[true, true, true, true, true, false, true, false, false, false, false, false, false, false, false] rfl rfl (any_of HT_.out (by kernel_rfl)) (fun _ _ _ h => h) (Or.inl ⟨by rfl, ?_⟩) ?_ ?_
        rotate_left
        ·intro w'
         go_simp
         with_reducible rfl
        rotate_left
        ·exact pt_
        refine pure_ (i := 9) (N := some 62) (v := ?_) (a' := ?_) #[true, true, true, true, true, false, true, false, false, true, false, false, false, false, false] rfl rfl (any_of HT_.out (by kernel_rfl)) (fun _ _ _ h => h) (Or.inl ⟨by rfl, ?_⟩) ?_ ?_
        rotate_left
        ·intro w'
         go_simp
         with_reducible rfl
        rotate_left
        ·exact pt_
        refine take_ (i := 5) (N := some 58) (v := ?_) (a' := ?_) #[true, true, true, true, true, true, true, false, false, true, false, false, false, false, false] rfl rfl (take_ofW HT_.out HW_.out (by kernel_rfl)) (fun _ _ _ h => h) (Or.inl ⟨by rfl, ?_⟩) hHeld ?_ ?_
        rotate_left
        ·rintro w' ⟨s0, s1, s2, s3, s4, s5⟩
         go_simp
         with_reducible rfl
        rotate_left
        ·exact pt_
        refine take_ (i := 8) (N := some 61) (v := ?_) (a' := ?_) #[true, true, true, true, true, true, true, false, true, true, false, false, false, false, false] rfl rfl (take_ofW HT_.out HW_.out (by kernel_rfl)) (fun _ _ _ h => h) (Or.inl ⟨by rfl, ?_⟩) hHeld ?_ ?_
        rotate_left
        ·rintro w' ⟨s0, s1, s2, s3, s4, s5⟩
         go_simp
         with_reducible rfl
        rotate_left
        ·exact pt_
        refine one_ (i := 7) (N := some 60) #[true, true, true, true, true, true, true, true, true, true, false, false, false, false, false] rfl rfl (one_of HT_.out (by kernel_rfl)) (by decide) (fun K hK => ?_)
        refine gs_ Tryd.func12 #[.agg #[.bool a1_0, .slice A1_1 l1_1.length c1_1, .int .i64 a1_2], .bool a3] ?_
        with_reducible refine (num_Round.calls kj31 a1_0 _ _ l1_1 a1_2 a3 t1180 t1181 t1182 t1183 _ ?side1 ?side2 A55.out ?sidet).mono ?_
        (case sidet => exact Kd.C_below HTAB.out (bw_ HB.out))
        (case side1 => exact kc_ (Kd.C_below HR1_1.out HB.out))
        (case side2 => exact HC1_1.out)
        rintro e w60 ⟨rfl, hb⟩
        refine ⟨_, rfl, ?_⟩
        replace HO_1175001 := Aside0.mk (Kd.R_below (kr_ HO_1175001.out) hb)
        replace BK1162 := kq_ BK1162 hb
        replace BK1163 := kq_ BK1163 hb
        replace BK1164 := kq_ BK1164 hb
        replace BK1174 := kq_ BK1174 hb
        replace HB := bq_ HB hb
        (try clear hb)
        (try clear hb2)
        (try clear hk)
        (try clear hi)
        refine hK.out _ _ ⟨(blk_cell BK1163.out 0).trans rfl, (blk_cell BK1163.out 1).trans rfl, (blk_cell BK1163.out 2).trans rfl, (blk_cell BK1164.out 0).trans rfl, (blk_cell BK1164.out 1).trans rfl, (blk_cell BK1164.out 2).trans rfl⟩ (fun hHeld => ?_)
        clear hK K
        refine norm_ (a' := ?_) ?_ ?_
        rotate_left
        ·show Act.put _ (some 60) _ = _
         exact pt_
        refine one_ (i := 10) (N := some 63) #[true, true, true, true, true, true, true, true, true, true, true, false, false, false, false] rfl rfl (one_of HT_.out (by kernel_rfl)) (by decide) (fun K hK => ?_)
        refine gs_ Tryd.func12 #[.agg #[.bool a2_0, .slice A2_1 l2_1.length c2_1, .int .i64 a2_2], .bool a3] ?_
        with_reducible refine (num_Round.calls kj31 a2_0 _ _ l2_1 a2_2 a3 t1184 t1185 t1186 t1187 _ ?side1 ?side2 A56.out ?sidet).mono ?_
        (case sidet => exact Kd.C_below HTAB.out (bw_ HB.out))
        (case side1 => exact kc_ (Kd.C_below HR2_1.out HB.out))
        (case side2 => exact HC2_1.out)
        rintro e w61 ⟨rfl, hb⟩
        refine ⟨_, rfl, ?_⟩
        replace HO_1175001 := Aside0.mk (Kd.R_below (kr_ HO_1175001.out) hb)
        replace BK1162 := kq_ BK1162 hb
        replace BK1163 := kq_ BK1163 hb
        replace BK1164 := kq_ BK1164 hb
        replace BK1174 := kq_ BK1174 hb
        replace HB := bq_ HB hb
        (try clear hb)
        (try clear hb2)
        (try clear hk)
        (try clear hi)
        refine hK.out _ _ ⟨(blk_cell BK1163.out 0).trans rfl, (blk_cell BK1163.out 1).trans rfl, (blk_cell BK1163.out 2).trans rfl, (blk_cell BK1164.out 0).trans rfl, (blk_cell BK1164.out 1).trans rfl, (blk_cell BK1164.out 2).trans rfl⟩ (fun hHeld => ?_)
        clear hK K
        refine norm_ (a' := ?_) ?_ ?_
        rotate_left
        ·show Act.put _ (some 63) _ = _
         exact pt_
        refine one_ (i := 11) (N := some 64) #[true, true, true, true, true, true, true, true, true, true, true, true, false, false, false] rfl rfl (one_of HT_.out (by kernel_rfl)) (by decide) (fun K hK => ?_)
        refine gs_ Tryd.func17 #[.agg #[.int .i64 t1180, .bool t1181, .int .u64 t1182, .int .i64 t1183], .agg #[.int .i64 t1184, .bool t1185, .int .u64 t1186, .int .i64 t1187]] ?_
        with_reducible refine (num_Cmp.calls t1180 t1181 t1182 t1183 t1184 t1185 t1186 t1187 t1188 _ A57.out).mono ?_
        rintro e w62 ⟨rfl, hb⟩
        refine ⟨_, rfl, ?_⟩
        replace HO_1175001 := Aside0.mk (Kd.R_below (kr_ HO_1175001.out) hb)
        replace BK1162 := kq_ BK1162 hb
        replace BK1163 := kq_ BK1163 hb
        replace BK1164 := kq_ BK1164 hb
        replace BK1174 := kq_ BK1174 hb
        replace HB := bq_ HB hb
        (try clear hb)
        (try clear hb2)
        (try clear hk)
        (try clear hi)
        refine hK.out _ _ ⟨(blk_cell BK1163.out 0).trans rfl, (blk_cell BK1163.out 1).trans rfl, (blk_cell BK1163.out 2).trans rfl, (blk_cell BK1164.out 0).trans rfl, (blk_cell BK1164.out 1).trans rfl, (blk_cell BK1164.out 2).trans rfl⟩ (fun hHeld => ?_)
        clear hK K
        refine norm_ (a' := ?_) ?_ ?_
        rotate_left
        ·show Act.put _ (some 64) _ = _
         exact pt_
        refine pure_ (i := 12) (N := some 65) (v := ?_) (a' := ?_) #[true, true, true, true, true, true, true, true, true, true, true, true, true, false, false] rfl rfl (any_of HT_.out (by kernel_rfl)) (fun _ _ _ h => h) (Or.inl ⟨by rfl, ?_⟩) ?_ ?_
        rotate_left
        ·intro w'
         go_simp
         with_reducible rfl
        rotate_left
        ·exact pt_
        refine pure_ (i := 13) (N := some 66) (v := ?_) (a' := ?_) #[true, true, true, true, true, true, true, true, true, true, true, true, true, true, false] rfl rfl (any_of HT_.out (by kernel_rfl)) (fun _ _ _ h => h) (Or.inl ⟨by rfl, ?_⟩) ?_ ?_
        rotate_left
        ·intro w'
         go_simp
         with_reducible rfl
        rotate_left
        ·exact pt_
        refine pure_ (i := 14) (N := some 8) (v := ?_) (a' := ?_) #[true, true, true, true, true, true, true, true, true, true, true, true, true, true, true] rfl rfl (any_of HT_.out (by kernel_rfl)) (fun _ _ _ h => h) (Or.inl ⟨by rfl, ?_⟩) ?_ ?_
        rotate_left
        ·intro w'
         go_simp
         with_reducible rfl
        rotate_left
        ·exact pt_
        refine done_ (done_of HT_.out (by kernel_rfl)) ?_
        try go_wp2
        go_ret
        exact ⟨rf_, bw_ HB.out⟩


end Go.Proofs.YtkemnoejpbknhaaDoor.PA
