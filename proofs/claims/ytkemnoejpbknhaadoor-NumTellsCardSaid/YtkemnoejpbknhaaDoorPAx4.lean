-- Laid by this work's own program; Lean checks it.
import Derived.Test.YtkemnoejpbknhaaDoorPAx0
import Derived.Test.YtkemnoejpbknhaaDoorPAx2
import Derived.Test.YtkemnoejpbknhaaDoorPAx3
namespace Go.Proofs.YtkemnoejpbknhaaDoor.PA
open Go.RowKit Go.Proofs.YtkemnoejpbknhaaDoorW.PrintWords Go.Proofs.YtkemnoejpbknhaaDoorW.PrintLast Go.Proofs.YtkemnoejpbknhaaDoorW.PrintMore
attribute [local go_sem] max2_int min2_int max_two min_two max_three min_three max_four min_four   -- for this text's walks alone
set_option linter.unusedVariables false
set_option linter.unusedSimpArgs false

attribute [local go_sem ↓ high] isSome_set_
/-! ### dy_trailing: function 77 -/
set_option maxHeartbeats 8000000 in
set_option maxRecDepth 100000 in
theorem dy_trailing.calls (k : Nat) (A0 : Option Addr) (c0 : Nat) (l0 : List Int) (r : Int) (w : World) (hr0 : Kd.C (Kd.int .u32) w A0 l0.length l0) (hc0 : l0.length ≤ c0) (h : dy_trailing.f k l0 = some r) (htab_ : Kd.C (Kd.int .u8) w (some ⟨0, 0, none⟩) 32 tz32tab) :
  Calls Tryd.prog 77 #[.slice A0 l0.length c0] w fun e w' => e = .returned (.int .i64 r) ∧ Drawn0 w w' := by
 have HTAB := Aside0.mk htab_
 clear htab_
 have HR0 := Aside0.mk hr0
 have HC0 := Aside0.mk hc0
 clear hr0 hc0
 have H : (dy_trailing.l0 k 0 l0 (l0.length : Int) 0) = some r := h
 clear h
 have H' := Aside0.mk H
 clear H
 go_enter Tryd.func77, Tryd.ntmps77
 go_wp2
 go_loopg [3, 8] k (fun kq v3 v8 w' => ∃ (x3_1 : Int) (x8_1 : Int), v3 = .int .i64 x3_1 ∧ v8 = .int .i64 x8_1 ∧ Aside0 (dy_trailing.l0 kq x3_1 l0 (l0.length : Int) x8_1 = some r) ∧ Aside0 (kq ≤ k) ∧ Drawn0 w w')
 case atStart => exact ⟨(0), (0), (by first | rfl | (simp; done) | (simp [*]; done)), (by first | rfl | (simp; done) | (simp [*]; done)), H', ⟨Nat.le_refl _⟩, by repeat (first | exact Drawn0.refl _ | apply Drawn0.step)⟩
 case round =>
  clear H'
  obtain ⟨x3_1, x8_1, rfl, rfl, HA, HK1, ⟨m1, rfl⟩⟩ := hrel
  cases gk with
  | zero => exact absurd HA.out (by simp [dy_trailing.l0])
  | succ k1 =>
   have H := HA.out
   clear HA
   simp only [dy_trailing.l0] at H
   by_cases c2 : x8_1 < (l0.length : Int)
   ·rw [if_pos c2] at H
    have c2b0 : decide (x8_1 < (l0.length : Int)) = true := decide_eq_true c2
    clear c2
    by_cases c3 : 0 ≤ x8_1
    ·rw [if_pos c3] at H
     have c3b0 : decide (0 ≤ x8_1) = true := decide_eq_true c3
     clear c3
     by_cases c4 : x8_1 < (l0.length : Int)
     ·rw [if_pos c4] at H
      have c4b0 : decide (x8_1 < (l0.length : Int)) = true := decide_eq_true c4
      clear c4
      by_cases c5 : (rd l0 x8_1) = 0
      ·rw [if_pos c5] at H
       have c5b0 : ((rd l0 x8_1) == 0) = true := beq_iff_eq.mpr c5
       have c5b1 : ((rd l0 x8_1) != 0) = false := bne_eq_false_iff_eq.mpr c5
       clear c5
       have H' := Aside0.mk H
       clear H
       have p144 : 0 ≤ (x8_1 : Int) := of_decide_eq_true (by first | (with_reducible assumption) | assumption)
       have q144 : x8_1 < (l0.length : Int) := of_decide_eq_true (by first | (with_reducible assumption) | assumption)
       obtain ⟨ad144, e144, hx144_0⟩ := Kd.at_int HR0.out x8_1 p144 q144
       cases e144
       replace p144 := eq_true p144
       replace q144 := eq_true q144
       go_wp2
       go_roundg k1
       case measure => have := HK1.out; omega
       case rel => exact ⟨(wrap64 (x3_1 + 32)), (wrap64 (x8_1 + 1)), (by first | rfl | (simp; done) | (simp [*]; done)), (by first | rfl | (simp; done) | (simp [*]; done)), H', ⟨by have := HK1.out; omega⟩, by repeat (first | exact Drawn0.refl _ | apply Drawn0.step)⟩
      ·rw [if_neg c5] at H
       have c5b0 : ((rd l0 x8_1) == 0) = false := beq_eq_false_iff_ne.mpr c5
       have c5b1 : ((rd l0 x8_1) != 0) = true := bne_iff_ne.mpr c5
       replace H := Option.bind_eq_some_iff.mp H
       obtain ⟨t145, A60, H⟩ := H
       (try dsimp only at H)
       have A6 := Aside0.mk A60
       clear A60
       obtain rfl := Option.some.inj H
       have p144 : 0 ≤ (x8_1 : Int) := of_decide_eq_true (by first | (with_reducible assumption) | assumption)
       have q144 : x8_1 < (l0.length : Int) := of_decide_eq_true (by first | (with_reducible assumption) | assumption)
       obtain ⟨ad144, e144, hx144_0⟩ := Kd.at_int HR0.out x8_1 p144 q144
       cases e144
       replace p144 := eq_true p144
       replace q144 := eq_true q144
       go_wp2_with (first | ((with_reducible refine gate_callee (f := 86) rfl ?_); refine gl_ (some 16) Tryd.func86 #[.int .u32 (rd l0 x8_1)] ?_; (with_reducible refine (bits_TrailingZeros32.calls (rd l0 x8_1) t145 _ A6.out ?sidet).mono ?_); (case sidet => first | exact kc_ (Kd.C_below HTAB.out HB.out) | exact kc_ HTAB.out); rintro e w' ⟨rfl, ⟨nd, rfl⟩⟩; refine ⟨_, rfl, ?_⟩))
       go_ret
       exact ⟨by first | rfl | (simp; done) | (simp [*]; done), by repeat (first | exact Drawn0.refl _ | apply Drawn0.step)⟩
     ·rw [if_neg c4] at H
      exact absurd H (by simp)
    ·rw [if_neg c3] at H
     exact absurd H (by simp)
   ·rw [if_neg c2] at H
    have c2b0 : decide (x8_1 < (l0.length : Int)) = false := decide_eq_false c2
    clear c2
    obtain rfl := Option.some.inj H
    go_wp2
    go_ret
    exact ⟨by first | rfl | (simp; done) | (simp [*]; done), by repeat (first | exact Drawn0.refl _ | apply Drawn0.step)⟩

/-! ### dy_Make: function 58 -/
theorem dy_Make.tab6 : rtab .any (opsOf Tryd.f58 6) = dy_Make.T6 := by kernel_rfl
theorem dy_Make.bits6 : waitsOk dy_Make.T6.2 dy_Make.B6 = true := by kernel_rfl
set_option maxHeartbeats 8000000 in
set_option maxRecDepth 100000 in
theorem dy_Make.calls (k : Nat) (a0_0 : Bool) (A0_1 : Option Addr) (c0_1 : Nat) (l0_1 : List Int) (a1 : Int) (r1 : Bool) (r2 : List Int) (r3 : Int) (w : World) (hr0_1 : Kd.C (Kd.int .u32) w A0_1 l0_1.length l0_1) (hc0_1 : l0_1.length ≤ c0_1) (h : dy_Make.f k a0_0 l0_1 a1 = some (r1, r2, r3)) (htab_ : Kd.C (Kd.int .u8) w (some ⟨0, 0, none⟩) 32 tz32tab) :
  Calls Tryd.prog 58 #[.agg #[.bool a0_0, .slice A0_1 l0_1.length c0_1], .int .i64 a1] w fun e w' => ∃ v1_ : Value, e = .returned (.agg #[.bool r1, v1_, .int .i64 r3]) ∧ Kd.R (Kd.int .u32) 53 w' w.heap.size (fun _ => True) v1_ r2 ∧ Below w.heap.size w w' := by
 have HTAB := Aside0.mk htab_
 clear htab_
 have hu24 := Tryd.underlying24
 have hu26 := Tryd.underlying26
 have HR0_1 := Aside0.mk hr0_1
 have HC0_1 := Aside0.mk hc0_1
 clear hr0_1 hc0_1
 have HB := Aside0.mk (Below.refl w.heap.size w)
 have H : ((whole_Sign.f k a0_0 l0_1).bind fun t148 => (if t148 = 0 then (dy_Make.j0 k a1 true a0_0 l0_1) else ((dy_within.f a1).bind fun t149 => (dy_Make.j0 k a1 (!t149) a0_0 l0_1)))) = some (r1, r2, r3) := h
 clear h
 have HC3 := Aside0.mk H
 clear H
 go_enter Tryd.func58, Tryd.ntmps58
 go_upto_region 1 with (first | ((with_reducible refine gate_dst (N := 2) rfl ?_); refine bx_ 2 #[.bool a0_0, .slice A0_1 l0_1.length c0_1] 24 ?_; intro gb146 hg w4 hbox hb; have BK146 := Aside0.mk (hbox); have GW146 := ge_ hg HB; have GE146 := ge_ hg HB; replace HB := bq_ HB hb; clear hb hbox hg) | ((with_reducible refine gate_dst (N := 4) rfl ?_); refine bx_ 4 #[.bool false, .slice none 0 0, .int .i64 0] 26 ?_; intro gb147 hg w5 hbox hb; have BK147 := Aside0.mk (hbox); have GW147 := ge_ hg HB; have GE147 := ge_ hg HB; have NB146_147 := nb_ hg BK146; have NB147_146 := nc_ hg BK146; replace BK146 := kq_ BK146 hb; replace HB := bq_ HB hb; clear hb hbox hg))
 (try simp only [Act.put, List.setIfInBounds_toArray, List.set_cons_zero, List.set_cons_succ])
 go_cut [13] (fun v13 wc => ∃ (kq : Nat) (x13_2 : Bool), v13 = .bool x13_2 ∧ Aside0 (dy_Make.j0 kq a1 x13_2 a0_0 l0_1 = some (r1, r2, r3)) ∧ Aside0 (kq ≤ k) ∧ Aside0 (wc.heap[gb146]? = some (.cells #[.bool a0_0, (.slice A0_1 l0_1.length c0_1)] 24 (0, 0))) ∧ Aside0 (wc.heap[gb147]? = some (.cells #[.bool false, (.slice none 0 0), .int .i64 0] 26 (0, 0))) ∧ Aside0 (Below w.heap.size w wc))
 case first =>
  have H := HC3.out
  clear HC3
  replace H := Option.bind_eq_some_iff.mp H
  obtain ⟨t148, A60, H⟩ := H
  (try dsimp only at H)
  have A6 := Aside0.mk A60
  clear A60
  by_cases c7 : t148 = 0
  ·rw [if_pos c7] at H
   have c7b0 : (t148 == 0) = true := beq_iff_eq.mpr c7
   have c7b1 : (t148 != 0) = false := bne_eq_false_iff_eq.mpr c7
   clear c7
   (first | rw [c7b0] | (simp only [i64_w, i32_w]; rw [c7b0]) | skip)
   have H' := Aside0.mk H
   clear H
   have hnb8 := NB146_147.out
   have hnc8 := NB147_146.out
   obtain ⟨hcz9_0, hcz9_1, hfz9_0, hfz9_1⟩ := c2_ BK146
   go_wp2_with (first | ((with_reducible refine gate_callee (f := 75) rfl ?_); refine gl_ (some 7) Tryd.func75 #[.agg #[.bool a0_0, .slice A0_1 l0_1.length c0_1]] ?_; (with_reducible refine (whole_Sign.calls k a0_0 _ _ l0_1 t148 _ ?side1 ?side2 A6.out).mono ?_); (case side1 => exact kc_ (Kd.C_below HR0_1.out HB.out)); (case side2 => exact HC0_1.out); rintro e w10 ⟨rfl, hb⟩; refine ⟨_, rfl, ?_⟩; replace BK146 := kq_ BK146 hb; replace BK147 := kq_ BK147 hb; replace HB := bq_ HB hb; (try clear hb); (try clear hb2); (try clear hk); (try clear hi)))
   go_meet
   case rel => exact ⟨_, (true), (by first | rfl | (simp; done) | (simp [*]; done)), H', ⟨by first | omega | exact Nat.le_refl _⟩, ⟨kb_ BK146.out⟩, ⟨kb_ BK147.out⟩, ⟨bw_ HB.out⟩⟩
  ·rw [if_neg c7] at H
   have c7b0 : (t148 == 0) = false := beq_eq_false_iff_ne.mpr c7
   have c7b1 : (t148 != 0) = true := bne_iff_ne.mpr c7
   (first | rw [c7b0] | (simp only [i64_w, i32_w]; rw [c7b0]) | skip)
   replace H := Option.bind_eq_some_iff.mp H
   obtain ⟨t149, A110, H⟩ := H
   (try dsimp only at H)
   have A11 := Aside0.mk A110
   clear A110
   have H' := Aside0.mk H
   clear H
   have hnb12 := NB146_147.out
   have hnc12 := NB147_146.out
   obtain ⟨hcz13_0, hcz13_1, hfz13_0, hfz13_1⟩ := c2_ BK146
   go_wp2_with (first | ((with_reducible refine gate_callee (f := 75) rfl ?_); refine gl_ (some 7) Tryd.func75 #[.agg #[.bool a0_0, .slice A0_1 l0_1.length c0_1]] ?_; (with_reducible refine (whole_Sign.calls k a0_0 _ _ l0_1 t148 _ ?side1 ?side2 A6.out).mono ?_); (case side1 => exact kc_ (Kd.C_below HR0_1.out HB.out)); (case side2 => exact HC0_1.out); rintro e w14 ⟨rfl, hb⟩; refine ⟨_, rfl, ?_⟩; replace BK146 := kq_ BK146 hb; replace BK147 := kq_ BK147 hb; replace HB := bq_ HB hb; (try clear hb); (try clear hb2); (try clear hk); (try clear hi)) | (go_at_call 76; (with_reducible refine (dy_within.calls a1 t149 _ A11.out).mono ?_); rintro e w' ⟨rfl, ⟨nd, rfl⟩⟩))
   go_meet
   case rel => exact ⟨_, (!t149), (by first | rfl | (simp; done) | (simp [*]; done)), H', ⟨by first | omega | exact Nat.le_refl _⟩, ⟨kb_ BK146.out⟩, ⟨kb_ BK147.out⟩, ⟨bw_ HB.out⟩⟩
 case rest =>
  clear HC3
  try clear c1
  try clear p2
  try clear c5
  try clear c7
  try clear c7b0
  try clear c7b1
  try clear c8
  try clear c12
  try clear hcz13_0 hcz13_1
  try clear hcz9_0 hcz9_1
  try clear hfz13_0 hfz13_1
  try clear hfz9_0 hfz9_1
  obtain ⟨kq, x13_2, rfl, HA, HJ2, BK146, BK147, HB⟩ := hcut
  cases kq with
  | zero => exact absurd HA.out (by simp [dy_Make.j0])
  | succ kj2 =>
   have H := HA.out
   clear HA
   simp only [dy_Make.j0] at H
   by_cases c15 : x13_2 = true
   ·subst c15
    have H1 : (some (false, ([] : List Int), 0)) = some (r1, r2, r3) := by rw [if_pos rfl] at H; exact H
    clear H
    have H := H1
    clear H1
    simp only [Option.some.injEq, Prod.mk.injEq] at H
    obtain ⟨rfl, rfl, rfl⟩ := H
    have hnb16 := NB147_146.out
    have hnc16 := NB146_147.out
    obtain ⟨hcz17_0, hcz17_1, hcz17_2, hfz17_0, hfz17_1, hfz17_2⟩ := c3_ BK147
    go_wp2
    refine bodyPost_ret (results_cell_row rfl _ _ gb147 26 #[.bool false, .slice none 0 0, .int .i64 0] (0, 0) _ rfl (by refine kb_ ?_; refine bp_ #[.bool false, .slice none 0 0, .int .i64 0] 2 ?_; refine bp_ #[.bool false, .slice none 0 0, .int .i64 0] 1 ?_; refine bp_ #[.bool false, .slice none 0 0, .int .i64 0] 0 ?_; exact BK147.out) Tryd.underlying26 rfl (by kernel_rfl)) rfl ?_
    exact ⟨_, rf_, by first | exact Kd.R_nil _ _ _ _ _ | exact Kd.N_nil _ _ _ _ _ | exact Kd.V_nil _ _ _ _ _ | exact Kd.Q_nil _ _ _ _ _ | exact Kd.S_nil _ _ _ _ _, bw_ HB.out⟩
   ·replace c15 := Bool.eq_false_iff.mpr c15
    subst c15
    have H1 : ((dy_trailing.f kj2 l0_1).bind fun t150 => ((dy_within.f (wrap64 (a1 + t150))).bind fun t151 => (if t151 = true then ((nat_Shr.f kj2 l0_1 t150).bind fun t152 => ((whole_Make.f kj2 a0_0 t152).bind fun bt155 => (some (bt155.1, bt155.2, wrap64 (a1 + t150))))) else (some (false, ([] : List Int), 0))))) = some (r1, r2, r3) := by rw [if_neg (show ¬ (false = true) by decide)] at H; exact H
    clear H
    have H := H1
    clear H1
    replace H := Option.bind_eq_some_iff.mp H
    obtain ⟨t150, A180, H⟩ := H
    (try dsimp only at H)
    have A18 := Aside0.mk A180
    clear A180
    replace H := Option.bind_eq_some_iff.mp H
    obtain ⟨t151, A190, H⟩ := H
    (try dsimp only at H)
    have A19 := Aside0.mk A190
    clear A190
    by_cases c20 : t151 = true
    ·subst c20
     have H1 : ((nat_Shr.f kj2 l0_1 t150).bind fun t152 => ((whole_Make.f kj2 a0_0 t152).bind fun bt155 => (some (bt155.1, bt155.2, wrap64 (a1 + t150))))) = some (r1, r2, r3) := by rw [if_pos rfl] at H; exact H
     clear H
     have H := H1
     clear H1
     replace H := Option.bind_eq_some_iff.mp H
     obtain ⟨t152, A210, H⟩ := H
     (try dsimp only at H)
     have A21 := Aside0.mk A210
     clear A210
     replace H := Option.bind_eq_some_iff.mp H
     obtain ⟨⟨t155, t156⟩, A220, H⟩ := H
     (try dsimp only at H)
     have A22 := Aside0.mk A220
     clear A220
     simp only [Option.some.injEq, Prod.mk.injEq] at H
     obtain ⟨rfl, rfl, rfl⟩ := H
     have hnb23 := NB146_147.out
     have hnc23 := NB147_146.out
     obtain ⟨hcz24_0, hcz24_1, hfz24_0, hfz24_1⟩ := c2_ BK146
     try go_wp2_with (first | ((with_reducible refine gate_callee (f := 77) rfl ?_); refine gl_ (some 17) Tryd.func77 #[.slice A0_1 l0_1.length c0_1] ?_; (with_reducible refine (dy_trailing.calls kj2 _ _ l0_1 t150 _ ?side1 ?side2 A18.out ?sidet).mono ?_); (case sidet => exact Kd.C_below HTAB.out (bw_ HB.out)); (case side1 => exact kc_ (Kd.C_below HR0_1.out HB.out)); (case side2 => exact HC0_1.out); rintro e w' ⟨rfl, ⟨nd, rfl⟩⟩; refine ⟨_, rfl, ?_⟩; (try (rw [drewN_self wc]; generalize hq_ : World.drewN wc _ = wc; have n0_ : Aside0 (wc.heap[gb146]? = some (.cells #[.bool a0_0, .slice A0_1 l0_1.length c0_1] 24 (0, 0))) := ⟨by rw [← hq_]; exact (kb_ BK146.out)⟩; have n1_ : Aside0 (wc.heap[gb147]? = some (.cells #[.bool false, .slice none 0 0, .int .i64 0] 26 (0, 0))) := ⟨by rw [← hq_]; exact (kb_ BK147.out)⟩; have n2_ : Aside0 (Below w.heap.size w wc) := ⟨by rw [← hq_]; exact (bw_ HB.out)⟩; clear BK146 BK147 HB hq_; have BK146 := n0_; have BK147 := n1_; have HB := n2_; clear n0_ n1_ n2_)); (try (obtain ⟨hcz24_0, hcz24_1, hfz24_0, hfz24_1⟩ := c2_ BK146))) | ((with_reducible refine gate_callee (f := 76) rfl ?_); refine gl_ (some 21) Tryd.func76 #[.int .i64 (wrap64 (a1 + t150))] ?_; (with_reducible refine (dy_within.calls (wrap64 (a1 + t150)) true _ A19.out).mono ?_); rintro e w' ⟨rfl, ⟨nd, rfl⟩⟩; refine ⟨_, rfl, ?_⟩; (try (rw [drewN_self wc]; generalize hq_ : World.drewN wc _ = wc; have n0_ : Aside0 (wc.heap[gb146]? = some (.cells #[.bool a0_0, .slice A0_1 l0_1.length c0_1] 24 (0, 0))) := ⟨by rw [← hq_]; exact (kb_ BK146.out)⟩; have n1_ : Aside0 (wc.heap[gb147]? = some (.cells #[.bool false, .slice none 0 0, .int .i64 0] 26 (0, 0))) := ⟨by rw [← hq_]; exact (kb_ BK147.out)⟩; have n2_ : Aside0 (Below w.heap.size w wc) := ⟨by rw [← hq_]; exact (bw_ HB.out)⟩; clear BK146 BK147 HB hq_; have BK146 := n0_; have BK147 := n1_; have HB := n2_; clear n0_ n1_ n2_)); (try (obtain ⟨hcz24_0, hcz24_1, hfz24_0, hfz24_1⟩ := c2_ BK146))))
     replace BK146 := Aside0.mk (blk_drew BK146.out)
     replace BK147 := Aside0.mk (blk_drew BK147.out)
     replace HB := Aside0.mk (below_drew1 HB.out)
     refine start_ (n := 12) (S := fun w' => w'.cell? ⟨gb146, 0, none⟩ = some (.bool a0_0) ∧ w'.cell? ⟨gb146, 1, none⟩ = some (.slice A0_1 l0_1.length c0_1)) (ds := []) #[false, false, false, false, false, false, false, false, false, false, false, false] (by kernel_rfl) rfl rfl ⟨(blk_cell BK146.out 0).trans rfl, (blk_cell BK146.out 1).trans rfl⟩ (fun hHeld => ?_); refine with_tabW dy_Make.tab6 dy_Make.bits6 (fun HT_ HW_ => ?_)
     generalize wc.drew = w25 at BK146 BK147 HB hHeld ⊢
     refine pure_ (i := 0) (N := some 24) (v := ?_) (a' := ?_) #[true, false, false, false, false, false, false, false, false, false, false, false] rfl rfl (any_of HT_.out (by kernel_rfl)) (fun _ _ _ h => h) (Or.inl ⟨by rfl, ?_⟩) ?_ ?_
     rotate_left
     ·intro w'
      go_simp
      with_reducible rfl
     rotate_left
     ·exact pt_
     refine pure_ (i := 2) (N := some 26) (v := ?_) (a' := ?_) #[true, false, true, false, false, false, false, false, false, false, false, false] rfl rfl (any_of HT_.out (by kernel_rfl)) (fun _ _ _ h => h) (Or.inl ⟨by rfl, ?_⟩) ?_ ?_
     rotate_left
     ·intro w'
      go_simp
      with_reducible rfl
     rotate_left
     ·exact pt_
     refine pure_ (i := 4) (N := some 28) (v := ?_) (a' := ?_) #[true, false, true, false, true, false, false, false, false, false, false, false] rfl rfl (any_of HT_.out (by kernel_rfl)) (fun _ _ _ h => h) (Or.inl ⟨by rfl, ?_⟩) ?_ ?_
     rotate_left
     ·intro w'
      go_simp
      with_reducible rfl
     rotate_left
     ·exact pt_
     refine pure_ (i := 7) (N := some 31) (v := ?_) (a' := ?_) #[true, false, true, false, true, false, false, true, false, false, false, false] rfl rfl (any_of HT_.out (by kernel_rfl)) (fun _ _ _ h => h) (Or.inl ⟨by rfl, ?_⟩) ?_ ?_
     rotate_left
     ·intro w'
      go_simp
      with_reducible rfl
     rotate_left
     ·exact pt_
     refine pure_ (i := 8) (N := some 32) (v := ?_) (a' := ?_) #[true, false, true, false, true, false, false, true, true, false, false, false] rfl rfl (any_of HT_.out (by kernel_rfl)) (fun _ _ _ h => h) (Or.inl ⟨by rfl, ?_⟩) ?_ ?_
     rotate_left
     ·intro w'
      go_simp
      with_reducible rfl
     rotate_left
     ·exact pt_
     refine pure_ (i := 9) (N := some 33) (v := ?_) (a' := ?_) #[true, false, true, false, true, false, false, true, true, true, false, false] rfl rfl (any_of HT_.out (by kernel_rfl)) (fun _ _ _ h => h) (Or.inl ⟨by rfl, ?_⟩) ?_ ?_
     rotate_left
     ·intro w'
      go_simp
      with_reducible rfl
     rotate_left
     ·exact pt_
     refine take_ (i := 1) (N := some 25) (v := ?_) (a' := ?_) #[true, true, true, false, true, false, false, true, true, true, false, false] rfl rfl (take_ofW HT_.out HW_.out (by kernel_rfl)) (fun _ _ _ h => h) (Or.inl ⟨by rfl, ?_⟩) hHeld ?_ ?_
     rotate_left
     ·rintro w' ⟨s0, s1⟩
      go_simp
      with_reducible rfl
     rotate_left
     ·exact pt_
     refine take_ (i := 3) (N := some 27) (v := ?_) (a' := ?_) #[true, true, true, true, true, false, false, true, true, true, false, false] rfl rfl (take_ofW HT_.out HW_.out (by kernel_rfl)) (fun _ _ _ h => h) (Or.inl ⟨by rfl, ?_⟩) hHeld ?_ ?_
     rotate_left
     ·rintro w' ⟨s0, s1⟩
      go_simp
      with_reducible rfl
     rotate_left
     ·exact pt_
     refine one_ (i := 5) (N := some 29) #[true, true, true, true, true, true, false, true, true, true, false, false] rfl rfl (one_of HT_.out (by kernel_rfl)) (by decide) (fun K hK => ?_)
     refine gs_ Tryd.func43 #[.slice A0_1 l0_1.length c0_1, .int .i64 t150] ?_
     with_reducible refine (nat_Shr.calls kj2 _ _ l0_1 t150 t152 _ ?side1 ?side2 A21.out).mono ?_
     (case side1 => exact kc_ (Kd.C_below HR0_1.out HB.out))
     (case side2 => exact HC0_1.out)
     rintro e w26 ⟨v153, rfl, ho0, hb⟩
     refine ⟨_, rfl, ?_⟩
     have HO154 := Aside0.mk (Kd.R_lower ho0 (below_size (bw_ HB.out)))
     replace BK146 := kq_ BK146 hb
     replace BK147 := kq_ BK147 hb
     replace HB := bq_ HB hb
     (try clear hb)
     (try clear hb2)
     (try clear hk)
     (try clear hi)
     (try clear ho0)
     obtain ⟨Ao27, co27, eo27⟩ := Kd.R_slice HO154.out
     (first | subst eo27 | (injection eo27 with f1_ f2_ f3_; have f4_ := f1_.symm; have f5_ := f3_.symm; clear f1_ f2_ f3_; subst f4_; subst f5_))
     refine hK.out _ _ ⟨(blk_cell BK146.out 0).trans rfl, (blk_cell BK146.out 1).trans rfl⟩ (fun hHeld => ?_)
     clear hK K
     refine norm_ (a' := ?_) ?_ ?_
     rotate_left
     ·show Act.put _ (some 29) _ = _
      exact pt_
     refine one_ (i := 6) (N := some 30) #[true, true, true, true, true, true, true, true, true, true, false, false] rfl rfl (one_of HT_.out (by kernel_rfl)) (by decide) (fun K hK => ?_)
     refine gs_ Tryd.func59 #[.bool a0_0, .slice Ao27 t152.length co27] ?_
     with_reducible refine (whole_Make.calls kj2 a0_0 _ _ t152 t155 t156 _ ?side1 ?side2 A22.out).mono ?_
     (case side1 => exact kc_ (Kd.R_reads' HO154.out).2.2)
     (case side2 => exact (Kd.R_reads' HO154.out).2.1)
     rintro e w28 ⟨v157, rfl, ho0, hb⟩
     refine ⟨_, rfl, ?_⟩
     have HO158 := Aside0.mk (Kd.R_lower (Kd.R_new' ho0 (Kd.R_lt (kr_ HO154.out))) (below_size (bw_ HB.out)))
     replace HO154 := Aside0.mk (Kd.R_elder' (kr_ HO154.out) (Kd.R_base ho0) hb)
     replace BK146 := kq_ BK146 hb
     replace BK147 := kq_ BK147 hb
     replace HB := bq_ HB hb
     (try clear hb)
     (try clear hb2)
     (try clear hk)
     (try clear hi)
     (try clear ho0)
     obtain ⟨Ao29, co29, eo29⟩ := Kd.R_slice HO158.out
     (first | subst eo29 | (injection eo29 with f1_ f2_ f3_; have f4_ := f1_.symm; have f5_ := f3_.symm; clear f1_ f2_ f3_; subst f4_; subst f5_))
     refine hK.out _ _ ⟨(blk_cell BK146.out 0).trans rfl, (blk_cell BK146.out 1).trans rfl⟩ (fun hHeld => ?_)
     clear hK K
     refine norm_ (a' := ?_) ?_ ?_
     rotate_left
     ·show Act.put _ (some 30) _ = _
      exact pt_
     refine pure_ (i := 10) (N := some 34) (v := ?_) (a' := ?_) #[true, true, true, true, true, true, true, true, true, true, true, false] rfl rfl (any_of HT_.out (by kernel_rfl)) (fun _ _ _ h => h) (Or.inl ⟨by rfl, ?_⟩) ?_ ?_
     rotate_left
     ·intro w'
      go_simp
      with_reducible rfl
     rotate_left
     ·exact pt_
     refine one_ (i := 11) (N := none) #[true, true, true, true, true, true, true, true, true, true, true, true] rfl rfl (one_of HT_.out (by kernel_rfl)) (by decide) (fun K hK => ?_)
     have hs30 : w28.cell? ⟨gb147, 0, none⟩ = some (.bool false) := (blk_cell BK147.out 0).trans rfl
     have hfs30 := fz_ BK147 0
     have hns30_0 := NB146_147.out
     have hms30_0 := NB147_146.out
     have hs31 : w28.cell? ⟨gb147, 1, none⟩ = some (.slice none 0 0) := (blk_cell BK147.out 1).trans rfl
     have hfs31 := fz_ BK147 1
     have hns31_0 := NB146_147.out
     have hms31_0 := NB147_146.out
     have hs32 : w28.cell? ⟨gb147, 2, none⟩ = some (.int .i64 0) := (blk_cell BK147.out 2).trans rfl
     have hfs32 := fz_ BK147 2
     have hns32_0 := NB146_147.out
     have hms32_0 := NB147_146.out
     refine skip_ (w1 := ?_) (by rfl) rfl ?_ ?_
     rotate_left
     ·go_simp
      rfl
     refine hK.out _ _ ⟨((cell_far (p := ⟨gb147, _, none⟩) NB146_147.out _).trans (((cell_far (p := ⟨gb147, _, none⟩) NB146_147.out _).trans (((cell_far (p := ⟨gb147, _, none⟩) NB146_147.out _).trans (hHeld.1)))))), ((cell_far (p := ⟨gb147, _, none⟩) NB146_147.out _).trans (((cell_far (p := ⟨gb147, _, none⟩) NB146_147.out _).trans (((cell_far (p := ⟨gb147, _, none⟩) NB146_147.out _).trans (hHeld.2))))))⟩ (fun hHeld => ?_)
     clear hK K
     refine done_ (done_of HT_.out (by kernel_rfl)) ?_
     try go_wp2
     refine bodyPost_ret (results_cell_row rfl _ _ gb147 26 #[.bool t155, .slice Ao29 t156.length co29, .int .i64 (wrap64 (a1 + t150))] (0, 0) _ rfl (by refine kb_ ?_; refine bp_ #[.bool t155, .slice Ao29 t156.length co29, .int .i64 0] 2 ?_; refine bp_ #[.bool t155, .slice none 0 0, .int .i64 0] 1 ?_; refine bp_ #[.bool false, .slice none 0 0, .int .i64 0] 0 ?_; exact BK147.out) Tryd.underlying26 rfl (by kernel_rfl)) rfl ?_
     exact ⟨_, rf_, by (with_reducible repeat (first | apply Kd.R_alloc | apply Kd.R_drewN | apply Kd.R_drew)); exact Kd.R_mono (Kd.R_far (p := ⟨gb147, 2, none⟩) (Kd.R_far (p := ⟨gb147, 1, none⟩) (Kd.R_far (p := ⟨gb147, 0, none⟩) (Kd.R_types HO158.out BK147.out (by decide)) (fun _ hk => hk.2) (.bool t155)) (fun _ hk => hk.2) (.slice Ao29 t156.length co29)) (fun _ hk => hk.2) (.int .i64 (wrap64 (a1 + t150)))) (fun _ hk => trivial), bw_ HB.out⟩
    ·replace c20 := Bool.eq_false_iff.mpr c20
     subst c20
     have H1 : (some (false, ([] : List Int), 0)) = some (r1, r2, r3) := by rw [if_neg (show ¬ (false = true) by decide)] at H; exact H
     clear H
     have H := H1
     clear H1
     simp only [Option.some.injEq, Prod.mk.injEq] at H
     obtain ⟨rfl, rfl, rfl⟩ := H
     have hnb33 := NB146_147.out
     have hnc33 := NB147_146.out
     obtain ⟨hcz34_0, hcz34_1, hfz34_0, hfz34_1⟩ := c2_ BK146
     go_wp2_with (first | ((with_reducible refine gate_callee (f := 77) rfl ?_); refine gl_ (some 17) Tryd.func77 #[.slice A0_1 l0_1.length c0_1] ?_; (with_reducible refine (dy_trailing.calls kj2 _ _ l0_1 t150 _ ?side1 ?side2 A18.out ?sidet).mono ?_); (case sidet => exact Kd.C_below HTAB.out (bw_ HB.out)); (case side1 => exact kc_ (Kd.C_below HR0_1.out HB.out)); (case side2 => exact HC0_1.out); rintro e w' ⟨rfl, ⟨nd, rfl⟩⟩; refine ⟨_, rfl, ?_⟩; (try (rw [drewN_self wc]; generalize hq_ : World.drewN wc _ = wc; have n0_ : Aside0 (wc.heap[gb146]? = some (.cells #[.bool a0_0, .slice A0_1 l0_1.length c0_1] 24 (0, 0))) := ⟨by rw [← hq_]; exact (kb_ BK146.out)⟩; have n1_ : Aside0 (wc.heap[gb147]? = some (.cells #[.bool false, .slice none 0 0, .int .i64 0] 26 (0, 0))) := ⟨by rw [← hq_]; exact (kb_ BK147.out)⟩; have n2_ : Aside0 (Below w.heap.size w wc) := ⟨by rw [← hq_]; exact (bw_ HB.out)⟩; clear BK146 BK147 HB hq_; have BK146 := n0_; have BK147 := n1_; have HB := n2_; clear n0_ n1_ n2_)); (try (obtain ⟨hcz34_0, hcz34_1, hfz34_0, hfz34_1⟩ := c2_ BK146))) | ((with_reducible refine gate_callee (f := 76) rfl ?_); refine gl_ (some 21) Tryd.func76 #[.int .i64 (wrap64 (a1 + t150))] ?_; (with_reducible refine (dy_within.calls (wrap64 (a1 + t150)) false _ A19.out).mono ?_); rintro e w' ⟨rfl, ⟨nd, rfl⟩⟩; refine ⟨_, rfl, ?_⟩; (try (rw [drewN_self wc]; generalize hq_ : World.drewN wc _ = wc; have n0_ : Aside0 (wc.heap[gb146]? = some (.cells #[.bool a0_0, .slice A0_1 l0_1.length c0_1] 24 (0, 0))) := ⟨by rw [← hq_]; exact (kb_ BK146.out)⟩; have n1_ : Aside0 (wc.heap[gb147]? = some (.cells #[.bool false, .slice none 0 0, .int .i64 0] 26 (0, 0))) := ⟨by rw [← hq_]; exact (kb_ BK147.out)⟩; have n2_ : Aside0 (Below w.heap.size w wc) := ⟨by rw [← hq_]; exact (bw_ HB.out)⟩; clear BK146 BK147 HB hq_; have BK146 := n0_; have BK147 := n1_; have HB := n2_; clear n0_ n1_ n2_)); (try (obtain ⟨hcz34_0, hcz34_1, hfz34_0, hfz34_1⟩ := c2_ BK146)); obtain ⟨hcz35_0, hcz35_1, hcz35_2, hfz35_0, hfz35_1, hfz35_2⟩ := c3_ BK147))
     refine bodyPost_ret (results_cell_row rfl _ _ gb147 26 #[.bool false, .slice none 0 0, .int .i64 0] (0, 0) _ rfl (by refine kb_ ?_; refine bp_ #[.bool false, .slice none 0 0, .int .i64 0] 2 ?_; refine bp_ #[.bool false, .slice none 0 0, .int .i64 0] 1 ?_; refine bp_ #[.bool false, .slice none 0 0, .int .i64 0] 0 ?_; exact BK147.out) Tryd.underlying26 rfl (by kernel_rfl)) rfl ?_
     exact ⟨_, rf_, by first | exact Kd.R_nil _ _ _ _ _ | exact Kd.N_nil _ _ _ _ _ | exact Kd.V_nil _ _ _ _ _ | exact Kd.Q_nil _ _ _ _ _ | exact Kd.S_nil _ _ _ _ _, bw_ HB.out⟩

/-! ### whole_May: function 90 -/
set_option maxHeartbeats 8000000 in
set_option maxRecDepth 100000 in
theorem whole_May.calls (a0_0 : Bool) (A0_1 : Option Addr) (c0_1 : Nat) (l0_1 : List Int) (r : Bool) (w : World) (hr0_1 : Kd.C (Kd.int .u32) w A0_1 l0_1.length l0_1) (hc0_1 : l0_1.length ≤ c0_1) (h : whole_May.f a0_0 l0_1 = some r) :
  Calls Tryd.prog 90 #[.agg #[.bool a0_0, .slice A0_1 l0_1.length c0_1]] w fun e w' => e = .returned (.bool r) ∧ Below w.heap.size w w' := by
 have hu24 := Tryd.underlying24
 have HR0_1 := Aside0.mk hr0_1
 have HC0_1 := Aside0.mk hc0_1
 clear hr0_1 hc0_1
 have HB := Aside0.mk (Below.refl w.heap.size w)
 have H : (if (l0_1.length : Int) = 0 then (some (!a0_0)) else (if 0 ≤ (wrap64 ((l0_1.length : Int) - 1)) then (if (wrap64 ((l0_1.length : Int) - 1)) < (l0_1.length : Int) then (some ((rd l0_1 (wrap64 ((l0_1.length : Int) - 1))) != 0)) else (none)) else (none))) = some r := h
 clear h
 by_cases c2 : (l0_1.length : Int) = 0
 ·rw [if_pos c2] at H
  have c2b0 : ((l0_1.length : Int) == 0) = true := beq_iff_eq.mpr c2
  have c2b1 : ((l0_1.length : Int) != 0) = false := bne_eq_false_iff_eq.mpr c2
  clear c2
  obtain rfl := Option.some.inj H
  go_enter Tryd.func90, Tryd.ntmps90
  go_wp2_with (first | ((with_reducible refine gate_dst (N := 1) rfl ?_); refine bx_ 1 #[.bool a0_0, .slice A0_1 l0_1.length c0_1] 24 ?_; intro gb159 hg w3 hbox hb; have BK159 := Aside0.mk (hbox); have GW159 := ge_ hg HB; have GE159 := ge_ hg HB; replace HB := bq_ HB hb; clear hb hbox hg; obtain ⟨hcz4_0, hcz4_1, hfz4_0, hfz4_1⟩ := c2_ BK159))
  go_ret
  exact ⟨rf_, bw_ HB.out⟩
 ·rw [if_neg c2] at H
  have c2b0 : ((l0_1.length : Int) == 0) = false := beq_eq_false_iff_ne.mpr c2
  have c2b1 : ((l0_1.length : Int) != 0) = true := bne_iff_ne.mpr c2
  have c2b2 : ¬ (l0_1 = []) := fun h_ => c2 (by rw [h_]; rfl)
  obtain ⟨ji5, hji5⟩ : ∃ j_ : Int, (wrap64 ((l0_1.length : Int) - 1)) = j_ := ⟨_, rfl⟩
  (first | rw [hji5] at H | simp only [hji5] at H)
  have hji5w : (IntKind.i64.wrap ((l0_1.length : Int) - 1)) = ji5 := (i64_w _).trans hji5
  by_cases c6 : 0 ≤ (ji5)
  ·rw [if_pos c6] at H
   have c6b0 : decide (0 ≤ (ji5)) = true := decide_eq_true c6
   clear c6
   by_cases c7 : (ji5) < (l0_1.length : Int)
   ·rw [if_pos c7] at H
    have c7b0 : decide ((ji5) < (l0_1.length : Int)) = true := decide_eq_true c7
    clear c7
    obtain rfl := Option.some.inj H
    go_enter Tryd.func90, Tryd.ntmps90
    go_wp2_with (first | ((with_reducible refine gate_dst (N := 1) rfl ?_); refine bx_ 1 #[.bool a0_0, .slice A0_1 l0_1.length c0_1] 24 ?_; intro gb159 hg w8 hbox hb; have BK159 := Aside0.mk (hbox); have GW159 := ge_ hg HB; have GE159 := ge_ hg HB; replace HB := bq_ HB hb; clear hb hbox hg; obtain ⟨hcz9_0, hcz9_1, hfz9_0, hfz9_1⟩ := c2_ BK159; have p160 : 0 ≤ ((ji5) : Int) := of_decide_eq_true (by first | (with_reducible assumption) | assumption); have q160 : (ji5) < (l0_1.length : Int) := of_decide_eq_true (by first | (with_reducible assumption) | assumption); obtain ⟨ad160, e160, hx160_0⟩ := Kd.at_int HR0_1.out (ji5) p160 q160; cases e160; replace hx160_0 := (HB.out.cell (World.block_lt_of_cell? w _ hx160_0)).trans hx160_0; replace p160 := eq_true p160; replace q160 := eq_true q160))
    go_ret
    exact ⟨by first | rfl | (simp [errW_none, errW_some] <;> rfl) | (simp only [← hji5]; first | rfl | (simp [errW_none, errW_some] <;> rfl)) | (simp [*, errW_none, errW_some] <;> rfl), bw_ HB.out⟩
   ·rw [if_neg c7] at H
    exact absurd H (by simp)
  ·rw [if_neg c6] at H
   exact absurd H (by simp)

/-! ### dy_May: function 82 -/
set_option maxHeartbeats 8000000 in
set_option maxRecDepth 100000 in
theorem dy_May.calls (a0_0 : Bool) (A0_1 : Option Addr) (c0_1 : Nat) (l0_1 : List Int) (a0_2 : Int) (r : Bool) (w : World) (hr0_1 : Kd.C (Kd.int .u32) w A0_1 l0_1.length l0_1) (hc0_1 : l0_1.length ≤ c0_1) (h : dy_May.f a0_0 l0_1 a0_2 = some r) :
  Calls Tryd.prog 82 #[.agg #[.bool a0_0, .slice A0_1 l0_1.length c0_1, .int .i64 a0_2]] w fun e w' => e = .returned (.bool r) ∧ Below w.heap.size w w' := by
 have hu26 := Tryd.underlying26
 have hu24 := Tryd.underlying24
 have HR0_1 := Aside0.mk hr0_1
 have HC0_1 := Aside0.mk hc0_1
 clear hr0_1 hc0_1
 have HB := Aside0.mk (Below.refl w.heap.size w)
 have H : (if (l0_1.length : Int) = 0 then (if a0_0 = true then (some false) else (some (a0_2 == 0))) else ((whole_May.f a0_0 l0_1).bind fun t162 => (if t162 = true then (if 0 < (l0_1.length : Int) then (if (Go.bits .and .u32 (rd l0_1 0) 1) = 1 then ((dy_within.f a0_2).bind fun t164 => (some t164)) else (some false)) else (none)) else (some false)))) = some r := h
 clear h
 by_cases c2 : (l0_1.length : Int) = 0
 ·rw [if_pos c2] at H
  have c2b0 : ((l0_1.length : Int) == 0) = true := beq_iff_eq.mpr c2
  have c2b1 : ((l0_1.length : Int) != 0) = false := bne_eq_false_iff_eq.mpr c2
  clear c2
  by_cases c3 : a0_0 = true
  ·subst c3
   have H1 : (some false) = some r := by rw [if_pos rfl] at H; exact H
   clear H
   have H := H1
   clear H1
   obtain rfl := Option.some.inj H
   go_enter Tryd.func82, Tryd.ntmps82
   go_wp2_with (first | ((with_reducible refine gate_dst (N := 1) rfl ?_); refine bx_ 1 #[.bool true, .slice A0_1 l0_1.length c0_1, .int .i64 a0_2] 26 ?_; intro gb161 hg w4 hbox hb; have BK161 := Aside0.mk (hbox); have GW161 := ge_ hg HB; have GE161 := ge_ hg HB; replace HB := bq_ HB hb; clear hb hbox hg; obtain ⟨hcz5_0, hcz5_1, hcz5_2, hfz5_0, hfz5_1, hfz5_2⟩ := c3_ BK161))
   go_ret
   exact ⟨rf_, bw_ HB.out⟩
  ·replace c3 := Bool.eq_false_iff.mpr c3
   subst c3
   have H1 : (some (a0_2 == 0)) = some r := by rw [if_neg (show ¬ (false = true) by decide)] at H; exact H
   clear H
   have H := H1
   clear H1
   obtain rfl := Option.some.inj H
   go_enter Tryd.func82, Tryd.ntmps82
   go_wp2_with (first | ((with_reducible refine gate_dst (N := 1) rfl ?_); refine bx_ 1 #[.bool false, .slice A0_1 l0_1.length c0_1, .int .i64 a0_2] 26 ?_; intro gb161 hg w6 hbox hb; have BK161 := Aside0.mk (hbox); have GW161 := ge_ hg HB; have GE161 := ge_ hg HB; replace HB := bq_ HB hb; clear hb hbox hg; obtain ⟨hcz7_0, hcz7_1, hcz7_2, hfz7_0, hfz7_1, hfz7_2⟩ := c3_ BK161))
   go_ret
   exact ⟨rf_, bw_ HB.out⟩
 ·rw [if_neg c2] at H
  have c2b0 : ((l0_1.length : Int) == 0) = false := beq_eq_false_iff_ne.mpr c2
  have c2b1 : ((l0_1.length : Int) != 0) = true := bne_iff_ne.mpr c2
  have c2b2 : ¬ (l0_1 = []) := fun h_ => c2 (by rw [h_]; rfl)
  replace H := Option.bind_eq_some_iff.mp H
  obtain ⟨t162, A80, H⟩ := H
  (try dsimp only at H)
  have A8 := Aside0.mk A80
  clear A80
  by_cases c9 : t162 = true
  ·subst c9
   have H1 : (if 0 < (l0_1.length : Int) then (if (Go.bits .and .u32 (rd l0_1 0) 1) = 1 then ((dy_within.f a0_2).bind fun t164 => (some t164)) else (some false)) else (none)) = some r := by rw [if_pos rfl] at H; exact H
   clear H
   have H := H1
   clear H1
   by_cases c10 : 0 < (l0_1.length : Int)
   ·rw [if_pos c10] at H
    have c10b0 : decide (0 < (l0_1.length : Int)) = true := decide_eq_true c10
    have c10b1 : decide (0 < l0_1.length) = true := decide_eq_true (by omega)
    clear c10
    by_cases c11 : (Go.bits .and .u32 (rd l0_1 0) 1) = 1
    ·rw [if_pos c11] at H
     have c11b0 : ((Go.bits .and .u32 (rd l0_1 0) 1) == 1) = true := beq_iff_eq.mpr c11
     have c11b1 : ((Go.bits .and .u32 (rd l0_1 0) 1) != 1) = false := bne_eq_false_iff_eq.mpr c11
     clear c11
     replace H := Option.bind_eq_some_iff.mp H
     obtain ⟨t164, A120, H⟩ := H
     (try dsimp only at H)
     have A12 := Aside0.mk A120
     clear A120
     obtain rfl := Option.some.inj H
     go_enter Tryd.func82, Tryd.ntmps82
     go_wp2_with (first | ((with_reducible refine gate_dst (N := 1) rfl ?_); refine bx_ 1 #[.bool a0_0, .slice A0_1 l0_1.length c0_1, .int .i64 a0_2] 26 ?_; intro gb161 hg w13 hbox hb; have BK161 := Aside0.mk (hbox); have GW161 := ge_ hg HB; have GE161 := ge_ hg HB; replace HB := bq_ HB hb; clear hb hbox hg; obtain ⟨hcz14_0, hcz14_1, hcz14_2, hfz14_0, hfz14_1, hfz14_2⟩ := c3_ BK161) | ((with_reducible refine gate_callee (f := 90) rfl ?_); refine gl_ (some 19) Tryd.func90 #[.agg #[.bool a0_0, .slice A0_1 l0_1.length c0_1]] ?_; (with_reducible refine (whole_May.calls a0_0 _ _ l0_1 true _ ?side1 ?side2 A8.out).mono ?_); (case side1 => exact kc_ (Kd.C_below HR0_1.out HB.out)); (case side2 => exact HC0_1.out); rintro e w15 ⟨rfl, hb⟩; refine ⟨_, rfl, ?_⟩; replace BK161 := kq_ BK161 hb; replace HB := bq_ HB hb; (try clear hb); (try clear hb2); (try clear hk); (try clear hi); obtain ⟨hcz16_0, hcz16_1, hcz16_2, hfz16_0, hfz16_1, hfz16_2⟩ := c3_ BK161; have p163 : 0 ≤ (0 : Int) := (by omega); have q163 : 0 < (l0_1.length : Int) := of_decide_eq_true (by first | (with_reducible assumption) | assumption); obtain ⟨ad163, e163, hx163_0⟩ := Kd.at_int HR0_1.out 0 p163 q163; cases e163; have qi163 : (0 < l0_1.length) = True := eq_true (by omega); (try rw [show ((0 : Int)).toNat = 0 from rfl] at hx163_0); (try rw [Addr.add_zero'] at hx163_0); replace hx163_0 := (HB.out.cell (World.block_lt_of_cell? w _ hx163_0)).trans hx163_0; replace p163 := eq_true p163; replace q163 := eq_true q163) | (go_at_call 76; (with_reducible refine (dy_within.calls a0_2 t164 _ A12.out).mono ?_); rintro e w' ⟨rfl, ⟨nd, rfl⟩⟩))
     go_ret
     exact ⟨rf_, bw_ HB.out⟩
    ·rw [if_neg c11] at H
     have c11b0 : ((Go.bits .and .u32 (rd l0_1 0) 1) == 1) = false := beq_eq_false_iff_ne.mpr c11
     have c11b1 : ((Go.bits .and .u32 (rd l0_1 0) 1) != 1) = true := bne_iff_ne.mpr c11
     obtain rfl := Option.some.inj H
     go_enter Tryd.func82, Tryd.ntmps82
     go_wp2_with (first | ((with_reducible refine gate_dst (N := 1) rfl ?_); refine bx_ 1 #[.bool a0_0, .slice A0_1 l0_1.length c0_1, .int .i64 a0_2] 26 ?_; intro gb161 hg w17 hbox hb; have BK161 := Aside0.mk (hbox); have GW161 := ge_ hg HB; have GE161 := ge_ hg HB; replace HB := bq_ HB hb; clear hb hbox hg; obtain ⟨hcz18_0, hcz18_1, hcz18_2, hfz18_0, hfz18_1, hfz18_2⟩ := c3_ BK161) | ((with_reducible refine gate_callee (f := 90) rfl ?_); refine gl_ (some 19) Tryd.func90 #[.agg #[.bool a0_0, .slice A0_1 l0_1.length c0_1]] ?_; (with_reducible refine (whole_May.calls a0_0 _ _ l0_1 true _ ?side1 ?side2 A8.out).mono ?_); (case side1 => exact kc_ (Kd.C_below HR0_1.out HB.out)); (case side2 => exact HC0_1.out); rintro e w19 ⟨rfl, hb⟩; refine ⟨_, rfl, ?_⟩; replace BK161 := kq_ BK161 hb; replace HB := bq_ HB hb; (try clear hb); (try clear hb2); (try clear hk); (try clear hi); obtain ⟨hcz20_0, hcz20_1, hcz20_2, hfz20_0, hfz20_1, hfz20_2⟩ := c3_ BK161; have p163 : 0 ≤ (0 : Int) := (by omega); have q163 : 0 < (l0_1.length : Int) := of_decide_eq_true (by first | (with_reducible assumption) | assumption); obtain ⟨ad163, e163, hx163_0⟩ := Kd.at_int HR0_1.out 0 p163 q163; cases e163; have qi163 : (0 < l0_1.length) = True := eq_true (by omega); (try rw [show ((0 : Int)).toNat = 0 from rfl] at hx163_0); (try rw [Addr.add_zero'] at hx163_0); replace hx163_0 := (HB.out.cell (World.block_lt_of_cell? w _ hx163_0)).trans hx163_0; replace p163 := eq_true p163; replace q163 := eq_true q163))
     go_ret
     exact ⟨rf_, bw_ HB.out⟩
   ·rw [if_neg c10] at H
    exact absurd H (by simp)
  ·replace c9 := Bool.eq_false_iff.mpr c9
   subst c9
   have H1 : (some false) = some r := by rw [if_neg (show ¬ (false = true) by decide)] at H; exact H
   clear H
   have H := H1
   clear H1
   obtain rfl := Option.some.inj H
   go_enter Tryd.func82, Tryd.ntmps82
   go_wp2_with (first | ((with_reducible refine gate_dst (N := 1) rfl ?_); refine bx_ 1 #[.bool a0_0, .slice A0_1 l0_1.length c0_1, .int .i64 a0_2] 26 ?_; intro gb161 hg w21 hbox hb; have BK161 := Aside0.mk (hbox); have GW161 := ge_ hg HB; have GE161 := ge_ hg HB; replace HB := bq_ HB hb; clear hb hbox hg; obtain ⟨hcz22_0, hcz22_1, hcz22_2, hfz22_0, hfz22_1, hfz22_2⟩ := c3_ BK161) | ((with_reducible refine gate_callee (f := 90) rfl ?_); refine gl_ (some 19) Tryd.func90 #[.agg #[.bool a0_0, .slice A0_1 l0_1.length c0_1]] ?_; (with_reducible refine (whole_May.calls a0_0 _ _ l0_1 false _ ?side1 ?side2 A8.out).mono ?_); (case side1 => exact kc_ (Kd.C_below HR0_1.out HB.out)); (case side2 => exact HC0_1.out); rintro e w23 ⟨rfl, hb⟩; refine ⟨_, rfl, ?_⟩; replace BK161 := kq_ BK161 hb; replace HB := bq_ HB hb; (try clear hb); (try clear hb2); (try clear hk); (try clear hi)))
   go_ret
   exact ⟨rf_, bw_ HB.out⟩

/-! ### dy_fair: function 65 -/
set_option maxHeartbeats 8000000 in
set_option maxRecDepth 100000 in
theorem dy_fair.calls (k : Nat) (a0_0 : Bool) (P0_1_ : Nat → Prop) (A0_1 : Option Addr) (c0_1 : Nat) (l0_1 : List Int) (a0_2 : Int) (r1 : Bool) (r2 : List Int) (r3 : Int) (w : World) (hs0_1 : Kd.V (Kd.int .u32) 53 w w.heap.size (fun k_ => P0_1_ k_) (.slice A0_1 l0_1.length c0_1) l0_1) (h : dy_fair.f k a0_0 l0_1 a0_2 = some (r1, r2, r3)) (htab_ : Kd.C (Kd.int .u8) w (some ⟨0, 0, none⟩) 32 tz32tab) :
  Calls Tryd.prog 65 #[.agg #[.bool a0_0, .slice A0_1 l0_1.length c0_1, .int .i64 a0_2]] w fun e w' => ∃ v1_ : Value, e = .returned (.agg #[.bool r1, v1_, .int .i64 r3]) ∧ Kd.V (Kd.int .u32) 53 w' w.heap.size (fun k_ => (P0_1_ k_ ∨ w.heap.size ≤ k_)) v1_ r2 ∧ Below w.heap.size w w' := by
 have HTAB := Aside0.mk htab_
 clear htab_
 have hu26 := Tryd.underlying26
 have hu24 := Tryd.underlying24
 have HO0_1 := Aside0.mk (show Kd.V (Kd.int .u32) 53 w w.heap.size (fun k_ => (P0_1_ k_ ∨ w.heap.size ≤ k_)) (.slice A0_1 l0_1.length c0_1) l0_1 from Kd.V_mono hs0_1 (fun k_ hk => .inl hk))
 have HB := Aside0.mk (Below.refl w.heap.size w)
 have H : ((dy_May.f a0_0 l0_1 a0_2).bind fun t167 => (if t167 = true then (some (a0_0, l0_1, a0_2)) else ((dy_Make.f k a0_0 l0_1 a0_2).bind fun bt168 => (some (bt168.1, bt168.2.1, bt168.2.2))))) = some (r1, r2, r3) := h
 clear h
 replace H := Option.bind_eq_some_iff.mp H
 obtain ⟨t167, A20, H⟩ := H
 (try dsimp only at H)
 have A2 := Aside0.mk A20
 clear A20
 by_cases c3 : t167 = true
 ·subst c3
  have H1 : (some (a0_0, l0_1, a0_2)) = some (r1, r2, r3) := by rw [if_pos rfl] at H; exact H
  clear H
  have H := H1
  clear H1
  simp only [Option.some.injEq, Prod.mk.injEq] at H
  obtain ⟨rfl, rfl, rfl⟩ := H
  go_enter Tryd.func65, Tryd.ntmps65
  go_wp2_with (first | ((with_reducible refine gate_dst (N := 1) rfl ?_); refine bx_ 1 #[.bool a0_0, .slice A0_1 l0_1.length c0_1, .int .i64 a0_2] 26 ?_; intro gb165 hg w4 hbox hb; have n0_ := Aside0.mk (Kd.V_below (Kd.V_elderB (by (with_reducible repeat (first | apply Kd.V_alloc | apply Kd.V_drewN | apply Kd.V_drew)); exact HO0_1.out) gb165 (Nat.le_of_eq hg.symm)) hb); have n1_ := bq_ HB hb; have n2_ := Aside0.mk (hbox); have n3_ := ge_ hg HB; have n4_ := ge_ hg HB; clear HO0_1; clear HB; have HO0_1 := n0_; have HB := n1_; have BK165 := n2_; have GW165 := n3_; have GE165 := n4_; clear n0_ n1_ n2_ n3_ n4_; clear hb hbox hg) | ((with_reducible refine gate_dst (N := 2) rfl ?_); refine bx_ 2 #[.bool false, .slice none 0 0, .int .i64 0] 26 ?_; intro gb166 hg w5 hbox hb; have n0_ := Aside0.mk (Kd.V_below (Kd.V_elderB (by (with_reducible repeat (first | apply Kd.V_alloc | apply Kd.V_drewN | apply Kd.V_drew)); exact HO0_1.out) gb166 (Nat.le_of_eq hg.symm)) hb); have n1_ := kq_ BK165 hb; have n2_ := bq_ HB hb; have n3_ := Aside0.mk (hbox); have n4_ := ge_ hg HB; have n5_ := ge_ hg HB; have n6_ := nb_ hg BK165; have n7_ := nc_ hg BK165; clear HO0_1; clear BK165; clear HB; have HO0_1 := n0_; have BK165 := n1_; have HB := n2_; have BK166 := n3_; have GW166 := n4_; have GE166 := n5_; have NB165_166 := n6_; have NB166_165 := n7_; clear n0_ n1_ n2_ n3_ n4_ n5_ n6_ n7_; clear hb hbox hg; have hnb6 := NB165_166.out; have hnc6 := NB166_165.out; obtain ⟨hcz7_0, hcz7_1, hcz7_2, hfz7_0, hfz7_1, hfz7_2⟩ := c3_ BK165) | ((with_reducible refine gate_callee (f := 82) rfl ?_); refine gl_ (some 4) Tryd.func82 #[.agg #[.bool a0_0, .slice A0_1 l0_1.length c0_1, .int .i64 a0_2]] ?_; (with_reducible refine (dy_May.calls a0_0 _ _ l0_1 a0_2 true _ ?side1 ?side2 A2.out).mono ?_); (case side1 => exact kc_ (Kd.V_reads' HO0_1.out).2.2); (case side2 => exact (Kd.V_reads' HO0_1.out).2.1); rintro e w8 ⟨rfl, hb⟩; refine ⟨_, rfl, ?_⟩; have n0_ := Aside0.mk (Kd.V_below (by (with_reducible repeat (first | apply Kd.V_alloc | apply Kd.V_drewN | apply Kd.V_drew)); exact HO0_1.out) hb); have n1_ := kq_ BK165 hb; have n2_ := kq_ BK166 hb; have n3_ := bq_ HB hb; clear HO0_1; clear BK165; clear BK166; clear HB; have HO0_1 := n0_; have BK165 := n1_; have BK166 := n2_; have HB := n3_; clear n0_ n1_ n2_ n3_; (try clear hb); (try clear hb2); (try clear hk); (try clear hi); obtain ⟨hcz9_0, hcz9_1, hcz9_2, hfz9_0, hfz9_1, hfz9_2⟩ := c3_ BK165; obtain ⟨hcz10_0, hcz10_1, hcz10_2, hfz10_0, hfz10_1, hfz10_2⟩ := c3_ BK166))
  refine bodyPost_ret (results_cell_row rfl _ _ gb166 26 #[.bool a0_0, .slice A0_1 l0_1.length c0_1, .int .i64 a0_2] (0, 0) _ rfl (by refine kb_ ?_; refine bp_ #[.bool a0_0, .slice A0_1 l0_1.length c0_1, .int .i64 0] 2 ?_; refine bp_ #[.bool a0_0, .slice none 0 0, .int .i64 0] 1 ?_; refine bp_ #[.bool false, .slice none 0 0, .int .i64 0] 0 ?_; exact BK166.out) Tryd.underlying26 rfl (by kernel_rfl)) rfl ?_
  exact ⟨_, rf_, by (with_reducible repeat (first | apply Kd.V_alloc | apply Kd.V_drewN | apply Kd.V_drew)); exact Kd.V_mono (Kd.V_far (p := ⟨gb166, 2, none⟩) (Kd.V_far (p := ⟨gb166, 1, none⟩) (Kd.V_far (p := ⟨gb166, 0, none⟩) (Kd.V_mono HO0_1.out (fun k_ hk => (⟨hk, hk.2⟩ : _ ∧ k_ ≠ gb166))) (fun _ hk => hk.2) (.bool a0_0)) (fun _ hk => hk.2) (.slice A0_1 l0_1.length c0_1)) (fun _ hk => hk.2) (.int .i64 a0_2)) (fun _ hk => hk.1.1.1), bw_ HB.out⟩
 ·replace c3 := Bool.eq_false_iff.mpr c3
  subst c3
  have H1 : ((dy_Make.f k a0_0 l0_1 a0_2).bind fun bt168 => (some (bt168.1, bt168.2.1, bt168.2.2))) = some (r1, r2, r3) := by rw [if_neg (show ¬ (false = true) by decide)] at H; exact H
  clear H
  have H := H1
  clear H1
  replace H := Option.bind_eq_some_iff.mp H
  obtain ⟨⟨t168, t169, t172⟩, A110, H⟩ := H
  (try dsimp only at H)
  have A11 := Aside0.mk A110
  clear A110
  simp only [Option.some.injEq, Prod.mk.injEq] at H
  obtain ⟨rfl, rfl, rfl⟩ := H
  go_enter Tryd.func65, Tryd.ntmps65
  go_wp2_with (first | ((with_reducible refine gate_dst (N := 1) rfl ?_); refine bx_ 1 #[.bool a0_0, .slice A0_1 l0_1.length c0_1, .int .i64 a0_2] 26 ?_; intro gb165 hg w12 hbox hb; have n0_ := Aside0.mk (Kd.V_below (Kd.V_elderB (by (with_reducible repeat (first | apply Kd.V_alloc | apply Kd.V_drewN | apply Kd.V_drew)); exact HO0_1.out) gb165 (Nat.le_of_eq hg.symm)) hb); have n1_ := bq_ HB hb; have n2_ := Aside0.mk (hbox); have n3_ := ge_ hg HB; have n4_ := ge_ hg HB; clear HO0_1; clear HB; have HO0_1 := n0_; have HB := n1_; have BK165 := n2_; have GW165 := n3_; have GE165 := n4_; clear n0_ n1_ n2_ n3_ n4_; clear hb hbox hg) | ((with_reducible refine gate_dst (N := 2) rfl ?_); refine bx_ 2 #[.bool false, .slice none 0 0, .int .i64 0] 26 ?_; intro gb166 hg w13 hbox hb; have n0_ := Aside0.mk (Kd.V_below (Kd.V_elderB (by (with_reducible repeat (first | apply Kd.V_alloc | apply Kd.V_drewN | apply Kd.V_drew)); exact HO0_1.out) gb166 (Nat.le_of_eq hg.symm)) hb); have n1_ := kq_ BK165 hb; have n2_ := bq_ HB hb; have n3_ := Aside0.mk (hbox); have n4_ := ge_ hg HB; have n5_ := ge_ hg HB; have n6_ := nb_ hg BK165; have n7_ := nc_ hg BK165; clear HO0_1; clear BK165; clear HB; have HO0_1 := n0_; have BK165 := n1_; have HB := n2_; have BK166 := n3_; have GW166 := n4_; have GE166 := n5_; have NB165_166 := n6_; have NB166_165 := n7_; clear n0_ n1_ n2_ n3_ n4_ n5_ n6_ n7_; clear hb hbox hg; have hnb14 := NB165_166.out; have hnc14 := NB166_165.out; obtain ⟨hcz15_0, hcz15_1, hcz15_2, hfz15_0, hfz15_1, hfz15_2⟩ := c3_ BK165) | ((with_reducible refine gate_callee (f := 82) rfl ?_); refine gl_ (some 4) Tryd.func82 #[.agg #[.bool a0_0, .slice A0_1 l0_1.length c0_1, .int .i64 a0_2]] ?_; (with_reducible refine (dy_May.calls a0_0 _ _ l0_1 a0_2 false _ ?side1 ?side2 A2.out).mono ?_); (case side1 => exact kc_ (Kd.V_reads' HO0_1.out).2.2); (case side2 => exact (Kd.V_reads' HO0_1.out).2.1); rintro e w16 ⟨rfl, hb⟩; refine ⟨_, rfl, ?_⟩; have n0_ := Aside0.mk (Kd.V_below (by (with_reducible repeat (first | apply Kd.V_alloc | apply Kd.V_drewN | apply Kd.V_drew)); exact HO0_1.out) hb); have n1_ := kq_ BK165 hb; have n2_ := kq_ BK166 hb; have n3_ := bq_ HB hb; clear HO0_1; clear BK165; clear BK166; clear HB; have HO0_1 := n0_; have BK165 := n1_; have BK166 := n2_; have HB := n3_; clear n0_ n1_ n2_ n3_; (try clear hb); (try clear hb2); (try clear hk); (try clear hi); obtain ⟨hcz17_0, hcz17_1, hcz17_2, hfz17_0, hfz17_1, hfz17_2⟩ := c3_ BK165) | ((with_reducible refine gate_callee (f := 58) rfl ?_); refine gl_ (some 10) Tryd.func58 #[.agg #[.bool a0_0, .slice A0_1 l0_1.length c0_1], .int .i64 a0_2] ?_; (with_reducible refine (dy_Make.calls k a0_0 _ _ l0_1 a0_2 t168 t169 t172 _ ?side1 ?side2 A11.out ?sidet).mono ?_); (case sidet => exact Kd.C_below HTAB.out (bw_ HB.out)); (case side1 => exact kc_ (Kd.V_reads' HO0_1.out).2.2); (case side2 => exact (Kd.V_reads' HO0_1.out).2.1); rintro e w18 ⟨v170, rfl, ho0, hb⟩; refine ⟨_, rfl, ?_⟩; have n0_ := Aside0.mk (Kd.V_elder' (by (with_reducible repeat (first | apply Kd.V_alloc | apply Kd.V_drewN | apply Kd.V_drew)); exact HO0_1.out) (Kd.R_base ho0) hb); have n1_ := Aside0.mk (Kd.R_lower (Kd.R_newM (M := fun k_ => (w.heap.size ≤ k_)) ho0 (below_size (bw_ HB.out)) (fun k_ h_ => h_)) (below_size (bw_ HB.out))); have n2_ := kq_ BK165 hb; have n3_ := kq_ BK166 hb; have n4_ := bq_ HB hb; clear HO0_1; clear BK165; clear BK166; clear HB; have HO0_1 := n0_; have HO171 := n1_; have BK165 := n2_; have BK166 := n3_; have HB := n4_; clear n0_ n1_ n2_ n3_ n4_; (try clear hb); (try clear hb2); (try clear hk); (try clear hi); (try clear ho0); obtain ⟨hcz19_0, hcz19_1, hcz19_2, hfz19_0, hfz19_1, hfz19_2⟩ := c3_ BK166; obtain ⟨Ao20, co20, eo20⟩ := Kd.R_slice HO171.out; subst eo20))
  refine bodyPost_ret (results_cell_row rfl _ _ gb166 26 #[.bool t168, .slice Ao20 t169.length co20, .int .i64 t172] (0, 0) _ rfl (by refine kb_ ?_; refine bp_ #[.bool t168, .slice Ao20 t169.length co20, .int .i64 0] 2 ?_; refine bp_ #[.bool t168, .slice none 0 0, .int .i64 0] 1 ?_; refine bp_ #[.bool false, .slice none 0 0, .int .i64 0] 0 ?_; exact BK166.out) Tryd.underlying26 rfl (by kernel_rfl)) rfl ?_
  exact ⟨_, rf_, Kd.V_mono (Kd.R_V (kr_ (Kd.R_mono (Kd.R_far (p := ⟨gb166, 2, none⟩) (Kd.R_far (p := ⟨gb166, 1, none⟩) (Kd.R_far (p := ⟨gb166, 0, none⟩) (Kd.R_types HO171.out BK166.out (by decide)) (fun _ hk => hk.2) (.bool t168)) (fun _ hk => hk.2) (.slice Ao20 t169.length co20)) (fun _ hk => hk.2) (.int .i64 t172)) (fun _ hk => hk.1.1)))) (fun k_ hk => by first | exact ⟨(.inr (hk.1)), hk.2⟩ | exact (.inr (hk))), bw_ HB.out⟩

/-! ### dy_Move: function 37 -/
set_option maxHeartbeats 8000000 in
set_option maxRecDepth 100000 in
theorem dy_Move.calls (k : Nat) (a0_0 : Bool) (A0_1 : Option Addr) (c0_1 : Nat) (l0_1 : List Int) (a0_2 : Int) (a1 : Int) (r1 : Bool) (r2 : List Int) (r3 : Int) (w : World) (hr0_1 : Kd.C (Kd.int .u32) w A0_1 l0_1.length l0_1) (hc0_1 : l0_1.length ≤ c0_1) (h : dy_Move.f k a0_0 l0_1 a0_2 a1 = some (r1, r2, r3)) (htab_ : Kd.C (Kd.int .u8) w (some ⟨0, 0, none⟩) 32 tz32tab) :
  Calls Tryd.prog 37 #[.agg #[.bool a0_0, .slice A0_1 l0_1.length c0_1, .int .i64 a0_2], .int .i64 a1] w fun e w' => ∃ v1_ : Value, e = .returned (.agg #[.bool r1, v1_, .int .i64 r3]) ∧ Kd.R (Kd.int .u32) 53 w' w.heap.size (fun _ => True) v1_ r2 ∧ Below w.heap.size w w' := by
 have HTAB := Aside0.mk htab_
 clear htab_
 have hu26 := Tryd.underlying26
 have hu24 := Tryd.underlying24
 have HR0_1 := Aside0.mk hr0_1
 have HC0_1 := Aside0.mk hc0_1
 clear hr0_1 hc0_1
 have HB := Aside0.mk (Below.refl w.heap.size w)
 have H : ((dy_fair.f k a0_0 l0_1 a0_2).bind fun bt175 => (if a1 > 16777216 then (some (false, ([] : List Int), 0)) else (if a1 < (-16777216) then (some (false, ([] : List Int), 0)) else ((dy_Make.f k bt175.1 bt175.2.1 (wrap64 (bt175.2.2 + a1))).bind fun bt180 => (some (bt180.1, bt180.2.1, bt180.2.2)))))) = some (r1, r2, r3) := h
 clear h
 replace H := Option.bind_eq_some_iff.mp H
 obtain ⟨⟨t175, t176, t179⟩, A30, H⟩ := H
 (try dsimp only at H)
 have A3 := Aside0.mk A30
 clear A30
 by_cases c4 : a1 > 16777216
 ·rw [if_pos c4] at H
  have c4b0 : decide (16777216 < a1) = true := decide_eq_true c4
  clear c4
  simp only [Option.some.injEq, Prod.mk.injEq] at H
  obtain ⟨rfl, rfl, rfl⟩ := H
  go_enter Tryd.func37, Tryd.ntmps37
  go_wp2_with (first | ((with_reducible refine gate_dst (N := 2) rfl ?_); refine bx_ 2 #[.bool a0_0, .slice A0_1 l0_1.length c0_1, .int .i64 a0_2] 26 ?_; intro gb173 hg w5 hbox hb; have BK173 := Aside0.mk (hbox); have GW173 := ge_ hg HB; have GE173 := ge_ hg HB; replace HB := bq_ HB hb; clear hb hbox hg) | ((with_reducible refine gate_dst (N := 4) rfl ?_); refine bx_ 4 #[.bool false, .slice none 0 0, .int .i64 0] 26 ?_; intro gb174 hg w6 hbox hb; have BK174 := Aside0.mk (hbox); have GW174 := ge_ hg HB; have GE174 := ge_ hg HB; have NB173_174 := nb_ hg BK173; have NB174_173 := nc_ hg BK173; replace BK173 := kq_ BK173 hb; replace HB := bq_ HB hb; clear hb hbox hg; have hnb7 := NB173_174.out; have hnc7 := NB174_173.out; obtain ⟨hcz8_0, hcz8_1, hcz8_2, hfz8_0, hfz8_1, hfz8_2⟩ := c3_ BK173) | ((with_reducible refine gate_callee (f := 65) rfl ?_); refine gl_ (some 6) Tryd.func65 #[.agg #[.bool a0_0, .slice A0_1 l0_1.length c0_1, .int .i64 a0_2]] ?_; (with_reducible refine (dy_fair.calls k a0_0 (fun k_ => k_ < w.heap.size) _ _ l0_1 a0_2 t175 t176 t179 _ ?side1 A3.out ?sidet).mono ?_); (case sidet => exact Kd.C_below HTAB.out (bw_ HB.out)); (case side1 => exact Kd.V_mk HC0_1.out (Kd.F_below (Kd.C_F (Kd.heap_int .u32) HR0_1.out) (bw_ HB.out))); rintro e w9 ⟨v177, rfl, ho0, hb⟩; refine ⟨_, rfl, ?_⟩; have n0_ := Aside0.mk (Kd.V_lower (Kd.V_mono (ok' := fun k_ => k_ ≠ gb173 ∧ k_ ≠ gb174) ho0 (fun k_ hk_ => ⟨Or.elim hk_ (fun hs_ => fun e_ => Nat.not_le.2 hs_ (by rw [e_]; exact GW173.out)) (fun hn_ => (Kd.freshB (g := gb173) (o := .cells #[.bool a0_0, .slice A0_1 l0_1.length c0_1, .int .i64 a0_2] 26 (0, 0)) (kb_ BK173.out) k_ hn_)), Or.elim hk_ (fun hs_ => fun e_ => Nat.not_le.2 hs_ (by rw [e_]; exact GW174.out)) (fun hn_ => (Kd.freshB (g := gb174) (o := .cells #[.bool false, .slice none 0 0, .int .i64 0] 26 (0, 0)) (kb_ BK174.out) k_ hn_))⟩)) (below_size (bw_ HB.out))); have n1_ := kq_ BK173 hb; have n2_ := kq_ BK174 hb; have n3_ := bq_ HB hb; clear BK173; clear BK174; clear HB; have HO178 := n0_; have BK173 := n1_; have BK174 := n2_; have HB := n3_; clear n0_ n1_ n2_ n3_; (try clear hb); (try clear hb2); (try clear hk); (try clear hi); (try clear ho0); obtain ⟨hcz10_0, hcz10_1, hcz10_2, hfz10_0, hfz10_1, hfz10_2⟩ := c3_ BK173; obtain ⟨Ao11, co11, eo11⟩ := Kd.V_slice HO178.out; subst eo11; obtain ⟨hcz12_0, hcz12_1, hcz12_2, hfz12_0, hfz12_1, hfz12_2⟩ := c3_ BK174))
  refine bodyPost_ret (results_cell_row rfl _ _ gb174 26 #[.bool false, .slice none 0 0, .int .i64 0] (0, 0) _ rfl (by refine kb_ ?_; refine bp_ #[.bool false, .slice none 0 0, .int .i64 0] 2 ?_; refine bp_ #[.bool false, .slice none 0 0, .int .i64 0] 1 ?_; refine bp_ #[.bool false, .slice none 0 0, .int .i64 0] 0 ?_; refine bf_ NB174_173 ?_; refine bf_ NB174_173 ?_; refine bf_ NB174_173 ?_; exact BK174.out) Tryd.underlying26 rfl (by kernel_rfl)) rfl ?_
  exact ⟨_, rf_, by first | exact Kd.R_nil _ _ _ _ _ | exact Kd.N_nil _ _ _ _ _ | exact Kd.V_nil _ _ _ _ _ | exact Kd.Q_nil _ _ _ _ _ | exact Kd.S_nil _ _ _ _ _, bw_ HB.out⟩
 ·rw [if_neg c4] at H
  have c4b0 : decide (16777216 < a1) = false := decide_eq_false c4
  clear c4
  by_cases c13 : a1 < (-16777216)
  ·rw [if_pos c13] at H
   have c13b0 : decide (a1 < (-16777216)) = true := decide_eq_true c13
   clear c13
   simp only [Option.some.injEq, Prod.mk.injEq] at H
   obtain ⟨rfl, rfl, rfl⟩ := H
   go_enter Tryd.func37, Tryd.ntmps37
   go_wp2_with (first | ((with_reducible refine gate_dst (N := 2) rfl ?_); refine bx_ 2 #[.bool a0_0, .slice A0_1 l0_1.length c0_1, .int .i64 a0_2] 26 ?_; intro gb173 hg w14 hbox hb; have BK173 := Aside0.mk (hbox); have GW173 := ge_ hg HB; have GE173 := ge_ hg HB; replace HB := bq_ HB hb; clear hb hbox hg) | ((with_reducible refine gate_dst (N := 4) rfl ?_); refine bx_ 4 #[.bool false, .slice none 0 0, .int .i64 0] 26 ?_; intro gb174 hg w15 hbox hb; have BK174 := Aside0.mk (hbox); have GW174 := ge_ hg HB; have GE174 := ge_ hg HB; have NB173_174 := nb_ hg BK173; have NB174_173 := nc_ hg BK173; replace BK173 := kq_ BK173 hb; replace HB := bq_ HB hb; clear hb hbox hg; have hnb16 := NB173_174.out; have hnc16 := NB174_173.out; obtain ⟨hcz17_0, hcz17_1, hcz17_2, hfz17_0, hfz17_1, hfz17_2⟩ := c3_ BK173) | ((with_reducible refine gate_callee (f := 65) rfl ?_); refine gl_ (some 6) Tryd.func65 #[.agg #[.bool a0_0, .slice A0_1 l0_1.length c0_1, .int .i64 a0_2]] ?_; (with_reducible refine (dy_fair.calls k a0_0 (fun k_ => k_ < w.heap.size) _ _ l0_1 a0_2 t175 t176 t179 _ ?side1 A3.out ?sidet).mono ?_); (case sidet => exact Kd.C_below HTAB.out (bw_ HB.out)); (case side1 => exact Kd.V_mk HC0_1.out (Kd.F_below (Kd.C_F (Kd.heap_int .u32) HR0_1.out) (bw_ HB.out))); rintro e w18 ⟨v177, rfl, ho0, hb⟩; refine ⟨_, rfl, ?_⟩; have n0_ := Aside0.mk (Kd.V_lower (Kd.V_mono (ok' := fun k_ => k_ ≠ gb173 ∧ k_ ≠ gb174) ho0 (fun k_ hk_ => ⟨Or.elim hk_ (fun hs_ => fun e_ => Nat.not_le.2 hs_ (by rw [e_]; exact GW173.out)) (fun hn_ => (Kd.freshB (g := gb173) (o := .cells #[.bool a0_0, .slice A0_1 l0_1.length c0_1, .int .i64 a0_2] 26 (0, 0)) (kb_ BK173.out) k_ hn_)), Or.elim hk_ (fun hs_ => fun e_ => Nat.not_le.2 hs_ (by rw [e_]; exact GW174.out)) (fun hn_ => (Kd.freshB (g := gb174) (o := .cells #[.bool false, .slice none 0 0, .int .i64 0] 26 (0, 0)) (kb_ BK174.out) k_ hn_))⟩)) (below_size (bw_ HB.out))); have n1_ := kq_ BK173 hb; have n2_ := kq_ BK174 hb; have n3_ := bq_ HB hb; clear BK173; clear BK174; clear HB; have HO178 := n0_; have BK173 := n1_; have BK174 := n2_; have HB := n3_; clear n0_ n1_ n2_ n3_; (try clear hb); (try clear hb2); (try clear hk); (try clear hi); (try clear ho0); obtain ⟨hcz19_0, hcz19_1, hcz19_2, hfz19_0, hfz19_1, hfz19_2⟩ := c3_ BK173; obtain ⟨Ao20, co20, eo20⟩ := Kd.V_slice HO178.out; subst eo20; obtain ⟨hcz21_0, hcz21_1, hcz21_2, hfz21_0, hfz21_1, hfz21_2⟩ := c3_ BK174))
   refine bodyPost_ret (results_cell_row rfl _ _ gb174 26 #[.bool false, .slice none 0 0, .int .i64 0] (0, 0) _ rfl (by refine kb_ ?_; refine bp_ #[.bool false, .slice none 0 0, .int .i64 0] 2 ?_; refine bp_ #[.bool false, .slice none 0 0, .int .i64 0] 1 ?_; refine bp_ #[.bool false, .slice none 0 0, .int .i64 0] 0 ?_; refine bf_ NB174_173 ?_; refine bf_ NB174_173 ?_; refine bf_ NB174_173 ?_; exact BK174.out) Tryd.underlying26 rfl (by kernel_rfl)) rfl ?_
   exact ⟨_, rf_, by first | exact Kd.R_nil _ _ _ _ _ | exact Kd.N_nil _ _ _ _ _ | exact Kd.V_nil _ _ _ _ _ | exact Kd.Q_nil _ _ _ _ _ | exact Kd.S_nil _ _ _ _ _, bw_ HB.out⟩
  ·rw [if_neg c13] at H
   have c13b0 : decide (a1 < (-16777216)) = false := decide_eq_false c13
   clear c13
   replace H := Option.bind_eq_some_iff.mp H
   obtain ⟨⟨t180, t181, t184⟩, A220, H⟩ := H
   (try dsimp only at H)
   have A22 := Aside0.mk A220
   clear A220
   simp only [Option.some.injEq, Prod.mk.injEq] at H
   obtain ⟨rfl, rfl, rfl⟩ := H
   go_enter Tryd.func37, Tryd.ntmps37
   go_wp2_with (first | ((with_reducible refine gate_dst (N := 2) rfl ?_); refine bx_ 2 #[.bool a0_0, .slice A0_1 l0_1.length c0_1, .int .i64 a0_2] 26 ?_; intro gb173 hg w23 hbox hb; have BK173 := Aside0.mk (hbox); have GW173 := ge_ hg HB; have GE173 := ge_ hg HB; replace HB := bq_ HB hb; clear hb hbox hg) | ((with_reducible refine gate_dst (N := 4) rfl ?_); refine bx_ 4 #[.bool false, .slice none 0 0, .int .i64 0] 26 ?_; intro gb174 hg w24 hbox hb; have BK174 := Aside0.mk (hbox); have GW174 := ge_ hg HB; have GE174 := ge_ hg HB; have NB173_174 := nb_ hg BK173; have NB174_173 := nc_ hg BK173; replace BK173 := kq_ BK173 hb; replace HB := bq_ HB hb; clear hb hbox hg; have hnb25 := NB173_174.out; have hnc25 := NB174_173.out; obtain ⟨hcz26_0, hcz26_1, hcz26_2, hfz26_0, hfz26_1, hfz26_2⟩ := c3_ BK173) | ((with_reducible refine gate_callee (f := 65) rfl ?_); refine gl_ (some 6) Tryd.func65 #[.agg #[.bool a0_0, .slice A0_1 l0_1.length c0_1, .int .i64 a0_2]] ?_; (with_reducible refine (dy_fair.calls k a0_0 (fun k_ => k_ < w.heap.size) _ _ l0_1 a0_2 t175 t176 t179 _ ?side1 A3.out ?sidet).mono ?_); (case sidet => exact Kd.C_below HTAB.out (bw_ HB.out)); (case side1 => exact Kd.V_mk HC0_1.out (Kd.F_below (Kd.C_F (Kd.heap_int .u32) HR0_1.out) (bw_ HB.out))); rintro e w27 ⟨v177, rfl, ho0, hb⟩; refine ⟨_, rfl, ?_⟩; have n0_ := Aside0.mk (Kd.V_lower (Kd.V_mono (ok' := fun k_ => k_ ≠ gb173 ∧ k_ ≠ gb174) ho0 (fun k_ hk_ => ⟨Or.elim hk_ (fun hs_ => fun e_ => Nat.not_le.2 hs_ (by rw [e_]; exact GW173.out)) (fun hn_ => (Kd.freshB (g := gb173) (o := .cells #[.bool a0_0, .slice A0_1 l0_1.length c0_1, .int .i64 a0_2] 26 (0, 0)) (kb_ BK173.out) k_ hn_)), Or.elim hk_ (fun hs_ => fun e_ => Nat.not_le.2 hs_ (by rw [e_]; exact GW174.out)) (fun hn_ => (Kd.freshB (g := gb174) (o := .cells #[.bool false, .slice none 0 0, .int .i64 0] 26 (0, 0)) (kb_ BK174.out) k_ hn_))⟩)) (below_size (bw_ HB.out))); have n1_ := kq_ BK173 hb; have n2_ := kq_ BK174 hb; have n3_ := bq_ HB hb; clear BK173; clear BK174; clear HB; have HO178 := n0_; have BK173 := n1_; have BK174 := n2_; have HB := n3_; clear n0_ n1_ n2_ n3_; (try clear hb); (try clear hb2); (try clear hk); (try clear hi); (try clear ho0); obtain ⟨hcz28_0, hcz28_1, hcz28_2, hfz28_0, hfz28_1, hfz28_2⟩ := c3_ BK173; obtain ⟨Ao29, co29, eo29⟩ := Kd.V_slice HO178.out; subst eo29) | ((with_reducible refine gate_callee (f := 58) rfl ?_); refine gl_ (some 20) Tryd.func58 #[.agg #[.bool t175, .slice Ao29 t176.length co29], .int .i64 (wrap64 (t179 + a1))] ?_; (with_reducible refine (dy_Make.calls k t175 _ _ t176 (wrap64 (t179 + a1)) t180 t181 t184 _ ?side1 ?side2 A22.out ?sidet).mono ?_); (case sidet => exact Kd.C_below HTAB.out (bw_ HB.out)); (case side1 => refine (Kd.V_reads' (e := 53) (base := w.heap.size) (ok := fun k_ => (k_ ≠ gb173 ∧ k_ ≠ gb174)) (n := t176.length) (c := co29) ?_).2.2; exact (by (with_reducible repeat (first | apply Kd.V_alloc | apply Kd.V_drewN | apply Kd.V_drew)); exact (Kd.V_mono (Kd.V_far (p := ⟨gb173, 2, none⟩) (Kd.V_far (p := ⟨gb173, 1, none⟩) (Kd.V_far (p := ⟨gb173, 0, none⟩) (Kd.V_mono HO178.out (fun k_ hk => (⟨hk, hk.1⟩ : _ ∧ k_ ≠ gb173))) (fun _ hk => hk.2) (.bool t175)) (fun _ hk => hk.2) (.slice Ao29 t176.length co29)) (fun _ hk => hk.2) (.int .i64 t179)) (fun _ h_ => h_.1)))); (case side2 => exact (Kd.V_reads' HO178.out).2.1); rintro e w30 ⟨v182, rfl, ho0, hb⟩; refine ⟨_, rfl, ?_⟩; have n0_ := Aside0.mk (Kd.V_elder' (by (with_reducible repeat (first | apply Kd.V_alloc | apply Kd.V_drewN | apply Kd.V_drew)); exact (Kd.V_mono (Kd.V_far (p := ⟨gb173, 2, none⟩) (Kd.V_far (p := ⟨gb173, 1, none⟩) (Kd.V_far (p := ⟨gb173, 0, none⟩) (Kd.V_mono HO178.out (fun k_ hk => (⟨hk, hk.1⟩ : _ ∧ k_ ≠ gb173))) (fun _ hk => hk.2) (.bool t175)) (fun _ hk => hk.2) (.slice Ao29 t176.length co29)) (fun _ hk => hk.2) (.int .i64 t179)) (fun _ h_ => h_.1))) (Kd.R_base ho0) hb); have n1_ := Aside0.mk (Kd.R_lower ho0 (below_size (bw_ HB.out))); have n2_ := Aside0.mk (blk_below (g := gb173) (o := .cells #[.bool t175, .slice Ao29 t176.length co29, .int .i64 t179] 26 (0, 0)) (by refine kb_ ?_; refine bp_ #[.bool t175, .slice Ao29 t176.length co29, .int .i64 a0_2] 2 ?_; refine bp_ #[.bool t175, .slice A0_1 l0_1.length c0_1, .int .i64 a0_2] 1 ?_; refine bp_ #[.bool a0_0, .slice A0_1 l0_1.length c0_1, .int .i64 a0_2] 0 ?_; exact BK173.out) hb); have n3_ := Aside0.mk (blk_below (g := gb174) (o := .cells #[.bool false, .slice none 0 0, .int .i64 0] 26 (0, 0)) (by refine kb_ ?_; refine bf_ NB174_173 ?_; refine bf_ NB174_173 ?_; refine bf_ NB174_173 ?_; exact BK174.out) hb); have n4_ := bq_ HB hb; clear HO178; clear BK173; clear BK174; clear HB; have HO178 := n0_; have HO183 := n1_; have BK173 := n2_; have BK174 := n3_; have HB := n4_; clear n0_ n1_ n2_ n3_ n4_; (try clear hb); (try clear hb2); (try clear hk); (try clear hi); (try clear ho0); obtain ⟨hcz31_0, hcz31_1, hcz31_2, hfz31_0, hfz31_1, hfz31_2⟩ := c3_ BK174; obtain ⟨Ao32, co32, eo32⟩ := Kd.R_slice HO183.out; subst eo32))
   refine bodyPost_ret (results_cell_row rfl _ _ gb174 26 #[.bool t180, .slice Ao32 t181.length co32, .int .i64 t184] (0, 0) _ rfl (by refine kb_ ?_; refine bp_ #[.bool t180, .slice Ao32 t181.length co32, .int .i64 0] 2 ?_; refine bp_ #[.bool t180, .slice none 0 0, .int .i64 0] 1 ?_; refine bp_ #[.bool false, .slice none 0 0, .int .i64 0] 0 ?_; exact BK174.out) Tryd.underlying26 rfl (by kernel_rfl)) rfl ?_
   exact ⟨_, rf_, by (with_reducible repeat (first | apply Kd.R_alloc | apply Kd.R_drewN | apply Kd.R_drew)); exact Kd.R_mono (Kd.R_far (p := ⟨gb174, 2, none⟩) (Kd.R_far (p := ⟨gb174, 1, none⟩) (Kd.R_far (p := ⟨gb174, 0, none⟩) (Kd.R_types HO183.out BK174.out (by decide)) (fun _ hk => hk.2) (.bool t180)) (fun _ hk => hk.2) (.slice Ao32 t181.length co32)) (fun _ hk => hk.2) (.int .i64 t184)) (fun _ hk => trivial), bw_ HB.out⟩

/-! ### num_Infinite: function 33 -/
set_option maxHeartbeats 8000000 in
set_option maxRecDepth 100000 in
theorem num_Infinite.calls (a0 : Bool) (r1 : Int) (r2 : Bool) (r3 : Int) (r4 : Int) (w : World) (h : num_Infinite.f a0 = some (r1, r2, r3, r4)) :
  Calls Tryd.prog 33 #[.bool a0] w fun e w' => e = .returned (.agg #[.int .i64 r1, .bool r2, .int .u64 r3, .int .i64 r4]) ∧ Below w.heap.size w w' := by
 have hu30 := Tryd.underlying30
 have HB := Aside0.mk (Below.refl w.heap.size w)
 have H : (some (2, a0, 0, 0)) = some (r1, r2, r3, r4) := h
 clear h
 simp only [Option.some.injEq, Prod.mk.injEq] at H
 obtain ⟨rfl, rfl, rfl, rfl⟩ := H
 go_enter Tryd.func33, Tryd.ntmps33
 go_wp2_with (first | ((with_reducible refine gate_dst (N := 2) rfl ?_); refine bx_ 2 #[.int .i64 0, .bool false, .int .u64 0, .int .i64 0] 30 ?_; intro gb185 hg w2 hbox hb; have BK185 := Aside0.mk (hbox); have GW185 := ge_ hg HB; have GE185 := ge_ hg HB; replace HB := bq_ HB hb; clear hb hbox hg; obtain ⟨hcz3_0, hcz3_1, hcz3_2, hcz3_3, hfz3_0, hfz3_1, hfz3_2, hfz3_3⟩ := c4_ BK185))
 refine bodyPost_ret (results_cell_row rfl _ _ gb185 30 #[.int .i64 2, .bool a0, .int .u64 0, .int .i64 0] (0, 0) _ rfl (by refine kb_ ?_; refine bp_ #[.int .i64 2, .bool a0, .int .u64 0, .int .i64 0] 3 ?_; refine bp_ #[.int .i64 2, .bool a0, .int .u64 0, .int .i64 0] 2 ?_; refine bp_ #[.int .i64 2, .bool false, .int .u64 0, .int .i64 0] 1 ?_; refine bp_ #[.int .i64 0, .bool false, .int .u64 0, .int .i64 0] 0 ?_; exact BK185.out) Tryd.underlying30 rfl (by kernel_rfl)) rfl ?_
 exact ⟨rf_, bw_ HB.out⟩

/-! ### num_tiny: function 56 -/
set_option maxHeartbeats 8000000 in
set_option maxRecDepth 100000 in
theorem num_tiny.calls (a0 : Bool) (r1 : Int) (r2 : Bool) (r3 : Int) (r4 : Int) (w : World) (h : num_tiny.f a0 = some (r1, r2, r3, r4)) :
  Calls Tryd.prog 56 #[.bool a0] w fun e w' => e = .returned (.agg #[.int .i64 r1, .bool r2, .int .u64 r3, .int .i64 r4]) ∧ Below w.heap.size w w' := by
 have hu30 := Tryd.underlying30
 have HB := Aside0.mk (Below.refl w.heap.size w)
 have H : (some (1, a0, 9223372036854775808, (-1048576))) = some (r1, r2, r3, r4) := h
 clear h
 simp only [Option.some.injEq, Prod.mk.injEq] at H
 obtain ⟨rfl, rfl, rfl, rfl⟩ := H
 go_enter Tryd.func56, Tryd.ntmps56
 go_wp2_with (first | ((with_reducible refine gate_dst (N := 2) rfl ?_); refine bx_ 2 #[.int .i64 0, .bool false, .int .u64 0, .int .i64 0] 30 ?_; intro gb186 hg w2 hbox hb; have BK186 := Aside0.mk (hbox); have GW186 := ge_ hg HB; have GE186 := ge_ hg HB; replace HB := bq_ HB hb; clear hb hbox hg; obtain ⟨hcz3_0, hcz3_1, hcz3_2, hcz3_3, hfz3_0, hfz3_1, hfz3_2, hfz3_3⟩ := c4_ BK186))
 refine bodyPost_ret (results_cell_row rfl _ _ gb186 30 #[.int .i64 1, .bool a0, .int .u64 9223372036854775808, .int .i64 (-1048576)] (0, 0) _ rfl (by refine kb_ ?_; refine bp_ #[.int .i64 1, .bool a0, .int .u64 9223372036854775808, .int .i64 0] 3 ?_; refine bp_ #[.int .i64 1, .bool a0, .int .u64 0, .int .i64 0] 2 ?_; refine bp_ #[.int .i64 1, .bool false, .int .u64 0, .int .i64 0] 1 ?_; refine bp_ #[.int .i64 0, .bool false, .int .u64 0, .int .i64 0] 0 ?_; exact BK186.out) Tryd.underlying30 rfl (by kernel_rfl)) rfl ?_
 exact ⟨rf_, bw_ HB.out⟩

/-! ### num_huge: function 57 -/
set_option maxHeartbeats 8000000 in
set_option maxRecDepth 100000 in
theorem num_huge.calls (a0 : Bool) (r1 : Int) (r2 : Bool) (r3 : Int) (r4 : Int) (w : World) (h : num_huge.f a0 = some (r1, r2, r3, r4)) :
  Calls Tryd.prog 57 #[.bool a0] w fun e w' => e = .returned (.agg #[.int .i64 r1, .bool r2, .int .u64 r3, .int .i64 r4]) ∧ Below w.heap.size w w' := by
 have hu30 := Tryd.underlying30
 have HB := Aside0.mk (Below.refl w.heap.size w)
 have H : (some (1, a0, 18446744073709551615, 1048576)) = some (r1, r2, r3, r4) := h
 clear h
 simp only [Option.some.injEq, Prod.mk.injEq] at H
 obtain ⟨rfl, rfl, rfl, rfl⟩ := H
 go_enter Tryd.func57, Tryd.ntmps57
 go_wp2_with (first | ((with_reducible refine gate_dst (N := 2) rfl ?_); refine bx_ 2 #[.int .i64 0, .bool false, .int .u64 0, .int .i64 0] 30 ?_; intro gb187 hg w2 hbox hb; have BK187 := Aside0.mk (hbox); have GW187 := ge_ hg HB; have GE187 := ge_ hg HB; replace HB := bq_ HB hb; clear hb hbox hg; obtain ⟨hcz3_0, hcz3_1, hcz3_2, hcz3_3, hfz3_0, hfz3_1, hfz3_2, hfz3_3⟩ := c4_ BK187))
 refine bodyPost_ret (results_cell_row rfl _ _ gb187 30 #[.int .i64 1, .bool a0, .int .u64 18446744073709551615, .int .i64 1048576] (0, 0) _ rfl (by refine kb_ ?_; refine bp_ #[.int .i64 1, .bool a0, .int .u64 18446744073709551615, .int .i64 0] 3 ?_; refine bp_ #[.int .i64 1, .bool a0, .int .u64 0, .int .i64 0] 2 ?_; refine bp_ #[.int .i64 1, .bool false, .int .u64 0, .int .i64 0] 1 ?_; refine bp_ #[.int .i64 0, .bool false, .int .u64 0, .int .i64 0] 0 ?_; exact BK187.out) Tryd.underlying30 rfl (by kernel_rfl)) rfl ?_
 exact ⟨rf_, bw_ HB.out⟩

/-! ### num_Bound: function 39 -/
set_option maxHeartbeats 8000000 in
set_option maxRecDepth 100000 in
theorem num_Bound.calls (k : Nat) (a0 : Bool) (a1 : Int) (a2 : Int) (a3 : Bool) (r1 : Int) (r2 : Bool) (r3 : Int) (r4 : Int) (w : World) (h : num_Bound.f k a0 a1 a2 a3 = some (r1, r2, r3, r4)) :
  Calls Tryd.prog 39 #[.bool a0, .int .u64 a1, .int .i64 a2, .bool a3] w fun e w' => e = .returned (.agg #[.int .i64 r1, .bool r2, .int .u64 r3, .int .i64 r4]) ∧ Below w.heap.size w w' := by
 have hu30 := Tryd.underlying30
 have HB := Aside0.mk (Below.refl w.heap.size w)
 have H : (if a2 > 1048576 then (num_Bound.j0 k a0 a1 a2 a3 a3) else (num_Bound.j0 k a0 a1 a2 a3 false)) = some (r1, r2, r3, r4) := h
 clear h
 have HC5 := Aside0.mk H
 clear H
 go_enter Tryd.func39, Tryd.ntmps39
 go_upto_region 1 with (first | ((with_reducible refine gate_dst (N := 8) rfl ?_); refine bx_ 8 #[.int .i64 0, .bool false, .int .u64 0, .int .i64 0] 30 ?_; intro gb188 hg w6 hbox hb; have BK188 := Aside0.mk (hbox); have GW188 := ge_ hg HB; have GE188 := ge_ hg HB; replace HB := bq_ HB hb; clear hb hbox hg))
 (try simp only [Act.put, List.setIfInBounds_toArray, List.set_cons_zero, List.set_cons_succ])
 go_cut [9] (fun v9 wc => ∃ (kq : Nat) (x9_4 : Bool), v9 = .bool x9_4 ∧ Aside0 (num_Bound.j0 kq a0 a1 a2 a3 x9_4 = some (r1, r2, r3, r4)) ∧ Aside0 (kq ≤ k) ∧ Aside0 (wc.heap[gb188]? = some (.cells #[.int .i64 0, .bool false, .int .u64 0, .int .i64 0] 30 (0, 0))) ∧ Aside0 (Below w.heap.size w wc))
 case first =>
  have H := HC5.out
  clear HC5
  by_cases c7 : a2 > 1048576
  ·rw [if_pos c7] at H
   have c7b0 : decide (1048576 < a2) = true := decide_eq_true c7
   clear c7
   (first | rw [c7b0] | (simp only [i64_w, i32_w]; rw [c7b0]) | skip)
   have H' := Aside0.mk H
   clear H
   go_wp2
   go_meet
   case rel => exact ⟨_, (a3), (by first | rfl | (simp; done) | (simp [*]; done)), H', ⟨by first | omega | exact Nat.le_refl _⟩, ⟨kb_ BK188.out⟩, ⟨bw_ HB.out⟩⟩
  ·rw [if_neg c7] at H
   have c7b0 : decide (1048576 < a2) = false := decide_eq_false c7
   clear c7
   (first | rw [c7b0] | (simp only [i64_w, i32_w]; rw [c7b0]) | skip)
   have H' := Aside0.mk H
   clear H
   go_wp2
   go_meet
   case rel => exact ⟨_, (false), (by first | rfl | (simp; done) | (simp [*]; done)), H', ⟨by first | omega | exact Nat.le_refl _⟩, ⟨kb_ BK188.out⟩, ⟨bw_ HB.out⟩⟩
 case rest =>
  clear HC5
  try clear p2
  try clear c3
  try clear c7
  try clear c7b0
  obtain ⟨kq, x9_4, rfl, HA, HJ4, BK188, HB⟩ := hcut
  cases kq with
  | zero => exact absurd HA.out (by simp [num_Bound.j0])
  | succ kj4 =>
   have H := HA.out
   clear HA
   simp only [num_Bound.j0] at H
   by_cases c8 : x9_4 = true
   ·subst c8
    have H1 : ((num_Infinite.f a0).bind fun bt189 => (some (bt189.1, bt189.2.1, bt189.2.2.1, bt189.2.2.2))) = some (r1, r2, r3, r4) := by rw [if_pos rfl] at H; exact H
    clear H
    have H := H1
    clear H1
    replace H := Option.bind_eq_some_iff.mp H
    obtain ⟨⟨t189, t190, t191, t192⟩, A90, H⟩ := H
    (try dsimp only at H)
    have A9 := Aside0.mk A90
    clear A90
    simp only [Option.some.injEq, Prod.mk.injEq] at H
    obtain ⟨rfl, rfl, rfl, rfl⟩ := H
    go_wp2_with (first | ((with_reducible refine gate_callee (f := 33) rfl ?_); refine gl_ (some 16) Tryd.func33 #[.bool a0] ?_; (with_reducible refine (num_Infinite.calls a0 t189 t190 t191 t192 _ A9.out).mono ?_); rintro e w10 ⟨rfl, hb⟩; refine ⟨_, rfl, ?_⟩; replace BK188 := kq_ BK188 hb; replace HB := bq_ HB hb; (try clear hb); (try clear hb2); (try clear hk); (try clear hi); obtain ⟨hcz11_0, hcz11_1, hcz11_2, hcz11_3, hfz11_0, hfz11_1, hfz11_2, hfz11_3⟩ := c4_ BK188))
    refine bodyPost_ret (results_cell_row rfl _ _ gb188 30 #[.int .i64 t189, .bool t190, .int .u64 t191, .int .i64 t192] (0, 0) _ rfl (by refine kb_ ?_; refine bp_ #[.int .i64 t189, .bool t190, .int .u64 t191, .int .i64 0] 3 ?_; refine bp_ #[.int .i64 t189, .bool t190, .int .u64 0, .int .i64 0] 2 ?_; refine bp_ #[.int .i64 t189, .bool false, .int .u64 0, .int .i64 0] 1 ?_; refine bp_ #[.int .i64 0, .bool false, .int .u64 0, .int .i64 0] 0 ?_; exact BK188.out) Tryd.underlying30 rfl (by kernel_rfl)) rfl ?_
    exact ⟨rf_, bw_ HB.out⟩
   ·replace c8 := Bool.eq_false_iff.mpr c8
    subst c8
    have H1 : (if a2 > 1048576 then ((num_huge.f a0).bind fun bt193 => (some (bt193.1, bt193.2.1, bt193.2.2.1, bt193.2.2.2))) else (if a2 < (-1048576) then (num_Bound.j1 kj4 a0 a1 a2 a3) else (num_Bound.j1 kj4 a0 a1 a2 false))) = some (r1, r2, r3, r4) := by rw [if_neg (show ¬ (false = true) by decide)] at H; exact H
    clear H
    have H := H1
    clear H1
    by_cases c12 : a2 > 1048576
    ·rw [if_pos c12] at H
     have c12b0 : decide (1048576 < a2) = true := decide_eq_true c12
     clear c12
     replace H := Option.bind_eq_some_iff.mp H
     obtain ⟨⟨t193, t194, t195, t196⟩, A130, H⟩ := H
     (try dsimp only at H)
     have A13 := Aside0.mk A130
     clear A130
     simp only [Option.some.injEq, Prod.mk.injEq] at H
     obtain ⟨rfl, rfl, rfl, rfl⟩ := H
     go_wp2_with (first | ((with_reducible refine gate_callee (f := 57) rfl ?_); refine gl_ (some 21) Tryd.func57 #[.bool a0] ?_; (with_reducible refine (num_huge.calls a0 t193 t194 t195 t196 _ A13.out).mono ?_); rintro e w14 ⟨rfl, hb⟩; refine ⟨_, rfl, ?_⟩; replace BK188 := kq_ BK188 hb; replace HB := bq_ HB hb; (try clear hb); (try clear hb2); (try clear hk); (try clear hi); obtain ⟨hcz15_0, hcz15_1, hcz15_2, hcz15_3, hfz15_0, hfz15_1, hfz15_2, hfz15_3⟩ := c4_ BK188))
     refine bodyPost_ret (results_cell_row rfl _ _ gb188 30 #[.int .i64 t193, .bool t194, .int .u64 t195, .int .i64 t196] (0, 0) _ rfl (by refine kb_ ?_; refine bp_ #[.int .i64 t193, .bool t194, .int .u64 t195, .int .i64 0] 3 ?_; refine bp_ #[.int .i64 t193, .bool t194, .int .u64 0, .int .i64 0] 2 ?_; refine bp_ #[.int .i64 t193, .bool false, .int .u64 0, .int .i64 0] 1 ?_; refine bp_ #[.int .i64 0, .bool false, .int .u64 0, .int .i64 0] 0 ?_; exact BK188.out) Tryd.underlying30 rfl (by kernel_rfl)) rfl ?_
     exact ⟨rf_, bw_ HB.out⟩
    ·rw [if_neg c12] at H
     have c12b0 : decide (1048576 < a2) = false := decide_eq_false c12
     clear c12
     have HC16 := Aside0.mk H
     clear H
     go_upto_region 5 with (fail)
     go_cut [22] (fun v22 wc => ∃ (kq : Nat) (x22_15 : Bool), v22 = .bool x22_15 ∧ Aside0 (num_Bound.j1 kq a0 a1 a2 x22_15 = some (r1, r2, r3, r4)) ∧ Aside0 (kq ≤ kj4) ∧ Aside0 (wc.heap[gb188]? = some (.cells #[.int .i64 0, .bool false, .int .u64 0, .int .i64 0] 30 (0, 0))) ∧ Aside0 (Below w.heap.size w wc))
     case first =>
      have H := HC16.out
      clear HC16
      by_cases c17 : a2 < (-1048576)
      ·rw [if_pos c17] at H
       have c17b0 : decide (a2 < (-1048576)) = true := decide_eq_true c17
       clear c17
       (first | rw [c17b0] | (simp only [i64_w, i32_w]; rw [c17b0]) | skip)
       have H' := Aside0.mk H
       clear H
       go_wp2
       go_meet
       case rel => exact ⟨_, (a3), (by first | rfl | (simp; done) | (simp [*]; done)), H', ⟨by have := HJ4.out; first | omega | exact Nat.le_refl _⟩, ⟨kb_ BK188.out⟩, ⟨bw_ HB.out⟩⟩
      ·rw [if_neg c17] at H
       have c17b0 : decide (a2 < (-1048576)) = false := decide_eq_false c17
       clear c17
       (first | rw [c17b0] | (simp only [i64_w, i32_w]; rw [c17b0]) | skip)
       have H' := Aside0.mk H
       clear H
       go_wp2
       go_meet
       case rel => exact ⟨_, (false), (by first | rfl | (simp; done) | (simp [*]; done)), H', ⟨by have := HJ4.out; first | omega | exact Nat.le_refl _⟩, ⟨kb_ BK188.out⟩, ⟨bw_ HB.out⟩⟩
     case rest =>
      clear HC16
      try clear c1
      try clear p2
      try clear c3
      try clear c5
      try clear c7
      try clear c7b0
      try clear c8
      try clear c12
      try clear c12b0
      try clear c17
      try clear c17b0
      try clear hcz11_0 hcz11_1 hcz11_2 hcz11_3
      try clear hcz15_0 hcz15_1 hcz15_2 hcz15_3
      try clear hfz11_0 hfz11_1 hfz11_2 hfz11_3
      try clear hfz15_0 hfz15_1 hfz15_2 hfz15_3
      try clear p2
      obtain ⟨kq, x22_15, rfl, HA, HJ15, BK188, HB⟩ := hcut
      cases kq with
      | zero => exact absurd HA.out (by simp [num_Bound.j1])
      | succ kj15 =>
       have H := HA.out
       clear HA
       simp only [num_Bound.j1] at H
       by_cases c18 : x22_15 = true
       ·subst c18
        have H1 : ((num_tiny.f a0).bind fun bt197 => (some (bt197.1, bt197.2.1, bt197.2.2.1, bt197.2.2.2))) = some (r1, r2, r3, r4) := by rw [if_pos rfl] at H; exact H
        clear H
        have H := H1
        clear H1
        replace H := Option.bind_eq_some_iff.mp H
        obtain ⟨⟨t197, t198, t199, t200⟩, A190, H⟩ := H
        (try dsimp only at H)
        have A19 := Aside0.mk A190
        clear A190
        simp only [Option.some.injEq, Prod.mk.injEq] at H
        obtain ⟨rfl, rfl, rfl, rfl⟩ := H
        go_wp2_with (first | ((with_reducible refine gate_callee (f := 56) rfl ?_); refine gl_ (some 29) Tryd.func56 #[.bool a0] ?_; (with_reducible refine (num_tiny.calls a0 t197 t198 t199 t200 _ A19.out).mono ?_); rintro e w20 ⟨rfl, hb⟩; refine ⟨_, rfl, ?_⟩; replace BK188 := kq_ BK188 hb; replace HB := bq_ HB hb; (try clear hb); (try clear hb2); (try clear hk); (try clear hi); obtain ⟨hcz21_0, hcz21_1, hcz21_2, hcz21_3, hfz21_0, hfz21_1, hfz21_2, hfz21_3⟩ := c4_ BK188))
        refine bodyPost_ret (results_cell_row rfl _ _ gb188 30 #[.int .i64 t197, .bool t198, .int .u64 t199, .int .i64 t200] (0, 0) _ rfl (by refine kb_ ?_; refine bp_ #[.int .i64 t197, .bool t198, .int .u64 t199, .int .i64 0] 3 ?_; refine bp_ #[.int .i64 t197, .bool t198, .int .u64 0, .int .i64 0] 2 ?_; refine bp_ #[.int .i64 t197, .bool false, .int .u64 0, .int .i64 0] 1 ?_; refine bp_ #[.int .i64 0, .bool false, .int .u64 0, .int .i64 0] 0 ?_; exact BK188.out) Tryd.underlying30 rfl (by kernel_rfl)) rfl ?_
        exact ⟨rf_, bw_ HB.out⟩
       ·replace c18 := Bool.eq_false_iff.mpr c18
        subst c18
        have H1 : (if a2 < (-1048576) then (some (0, false, 0, 0)) else (some (1, a0, a1, a2))) = some (r1, r2, r3, r4) := by rw [if_neg (show ¬ (false = true) by decide)] at H; exact H
        clear H
        have H := H1
        clear H1
        by_cases c22 : a2 < (-1048576)
        ·rw [if_pos c22] at H
         have c22b0 : decide (a2 < (-1048576)) = true := decide_eq_true c22
         clear c22
         simp only [Option.some.injEq, Prod.mk.injEq] at H
         obtain ⟨rfl, rfl, rfl, rfl⟩ := H
         obtain ⟨hcz23_0, hcz23_1, hcz23_2, hcz23_3, hfz23_0, hfz23_1, hfz23_2, hfz23_3⟩ := c4_ BK188
         go_wp2
         refine bodyPost_ret (results_cell_row rfl _ _ gb188 30 #[.int .i64 0, .bool false, .int .u64 0, .int .i64 0] (0, 0) _ rfl (by refine kb_ ?_; refine bp_ #[.int .i64 0, .bool false, .int .u64 0, .int .i64 0] 3 ?_; refine bp_ #[.int .i64 0, .bool false, .int .u64 0, .int .i64 0] 2 ?_; refine bp_ #[.int .i64 0, .bool false, .int .u64 0, .int .i64 0] 1 ?_; refine bp_ #[.int .i64 0, .bool false, .int .u64 0, .int .i64 0] 0 ?_; exact BK188.out) Tryd.underlying30 rfl (by kernel_rfl)) rfl ?_
         exact ⟨rf_, bw_ HB.out⟩
        ·rw [if_neg c22] at H
         have c22b0 : decide (a2 < (-1048576)) = false := decide_eq_false c22
         clear c22
         simp only [Option.some.injEq, Prod.mk.injEq] at H
         obtain ⟨rfl, rfl, rfl, rfl⟩ := H
         obtain ⟨hcz24_0, hcz24_1, hcz24_2, hcz24_3, hfz24_0, hfz24_1, hfz24_2, hfz24_3⟩ := c4_ BK188
         go_wp2
         refine bodyPost_ret (results_cell_row rfl _ _ gb188 30 #[.int .i64 1, .bool a0, .int .u64 a1, .int .i64 a2] (0, 0) _ rfl (by refine kb_ ?_; refine bp_ #[.int .i64 1, .bool a0, .int .u64 a1, .int .i64 0] 3 ?_; refine bp_ #[.int .i64 1, .bool a0, .int .u64 0, .int .i64 0] 2 ?_; refine bp_ #[.int .i64 1, .bool false, .int .u64 0, .int .i64 0] 1 ?_; refine bp_ #[.int .i64 0, .bool false, .int .u64 0, .int .i64 0] 0 ?_; exact BK188.out) Tryd.underlying30 rfl (by kernel_rfl)) rfl ?_
         exact ⟨rf_, bw_ HB.out⟩

end Go.Proofs.YtkemnoejpbknhaaDoor.PA
