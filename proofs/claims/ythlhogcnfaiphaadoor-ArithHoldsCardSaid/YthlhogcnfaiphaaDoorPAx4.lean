-- Laid by this work's own program; Lean checks it.
import Derived.Test.YthlhogcnfaiphaaDoorPAx0
import Derived.Test.YthlhogcnfaiphaaDoorPAx2
import Derived.Test.YthlhogcnfaiphaaDoorPAx3
namespace Go.Proofs.YthlhogcnfaiphaaDoor.PA
open Go.RowKit Go.Proofs.YthlhogcnfaiphaaDoorW.PrintWords Go.Proofs.YthlhogcnfaiphaaDoorW.PrintLast Go.Proofs.YthlhogcnfaiphaaDoorW.PrintMore
attribute [local go_sem] max2_int min2_int max_two min_two max_three min_three max_four min_four   -- for this text's walks alone
set_option linter.unusedVariables false
set_option linter.unusedSimpArgs false

attribute [local go_sem ↓ high] isSome_set_
/-! ### bits_Len64: function 47 -/
set_option maxHeartbeats 8000000 in
set_option maxRecDepth 100000 in
theorem bits_Len64.calls (k : Nat) (a0 : Int) (r : Int) (w : World) (h : bits_Len64.f k a0 = some r) :
  Calls Tryd.prog 47 #[.int .u64 a0] w fun e w' => e = .returned (.int .i64 r) ∧ Drawn0 w w' := by
 have H : (if a0 ≥ 4294967296 then (bits_Len64.j0 k (a0 / 4294967296) 32) else (bits_Len64.j0 k a0 0)) = some r := h
 clear h
 have HC2 := Aside0.mk H
 clear H
 go_enter Tryd.func47, Tryd.ntmps47
 go_upto_if 4 with (fail)
 go_cut [0, 2] (fun v0 v2 wc => ∃ (kq : Nat) (x0_1 : Int) (x2_1 : Int), v0 = .int .u64 x0_1 ∧ v2 = .int .i64 x2_1 ∧ Aside0 (bits_Len64.j0 kq x0_1 x2_1 = some r) ∧ Aside0 (kq ≤ k) ∧ Drawn0 w wc)
 case first =>
  have H := HC2.out
  clear HC2
  by_cases c3 : a0 ≥ 4294967296
  ·rw [if_pos c3] at H
   have c3b0 : decide (4294967296 ≤ a0) = true := decide_eq_true c3
   clear c3
   (first | rw [c3b0] | (simp only [i64_w, i32_w]; rw [c3b0]) | skip)
   have H' := Aside0.mk H
   clear H
   go_wp2
   go_meet
   case rel => exact ⟨_, (a0 / 4294967296), (32), (by first | rfl | (simp; done) | (simp [*]; done)), (by first | rfl | (simp; done) | (simp [*]; done)), H', ⟨by first | omega | exact Nat.le_refl _⟩, by repeat (first | exact Drawn0.refl _ | apply Drawn0.step)⟩
  ·rw [if_neg c3] at H
   have c3b0 : decide (4294967296 ≤ a0) = false := decide_eq_false c3
   clear c3
   (first | rw [c3b0] | (simp only [i64_w, i32_w]; rw [c3b0]) | skip)
   have H' := Aside0.mk H
   clear H
   go_wp2
   go_meet
   case rel => exact ⟨_, (a0), (0), (by first | rfl | (simp; done) | (simp [*]; done)), (by first | rfl | (simp; done) | (simp [*]; done)), H', ⟨by first | omega | exact Nat.le_refl _⟩, by repeat (first | exact Drawn0.refl _ | apply Drawn0.step)⟩
 case rest =>
  clear HC2
  try clear p2
  try clear c3
  try clear c3b0
  obtain ⟨kq, x0_1, x2_1, rfl, rfl, HA, HJ1, ⟨mc1, rfl⟩⟩ := hcut
  cases kq with
  | zero => exact absurd HA.out (by simp [bits_Len64.j0])
  | succ kj1 =>
   have H := HA.out
   clear HA
   simp only [bits_Len64.j0] at H
   by_cases c4 : x0_1 ≥ 65536
   ·rw [if_pos c4] at H
    have c4b0 : decide (65536 ≤ x0_1) = true := decide_eq_true c4
    clear c4
    by_cases c5 : (x0_1 / 65536) ≥ 256
    ·rw [if_pos c5] at H
     have c5b0 : decide (256 ≤ (x0_1 / 65536)) = true := decide_eq_true c5
     clear c5
     obtain ⟨ji6, hji6⟩ : ∃ j_ : Int, (((x0_1 / 65536) / 256) % 256) = j_ := ⟨_, rfl⟩
     (first | rw [hji6] at H | simp only [hji6] at H)
     by_cases c7 : 0 ≤ (ji6)
     ·rw [if_pos c7] at H
      have c7b0 : decide (0 ≤ (ji6)) = true := decide_eq_true c7
      clear c7
      by_cases c8 : (ji6) < 256
      ·rw [if_pos c8] at H
       have c8b0 : decide ((ji6) < 256) = true := decide_eq_true c8
       clear c8
       obtain rfl := Option.some.inj H
       have p9 : 0 ≤ ((ji6) : Int) := of_decide_eq_true (by first | (with_reducible assumption) | assumption)
       have q9 : (ji6) < (256 : Int) := of_decide_eq_true (by first | (with_reducible assumption) | assumption)
       have hx9 := bt_at (⟨#[0, 1, 2, 2, 3, 3, 3, 3, 4, 4, 4, 4, 4, 4, 4, 4, 5, 5, 5, 5, 5, 5, 5, 5, 5, 5, 5, 5, 5, 5, 5, 5, 6, 6, 6, 6, 6, 6, 6, 6, 6, 6, 6, 6, 6, 6, 6, 6, 6, 6, 6, 6, 6, 6, 6, 6, 6, 6, 6, 6, 6, 6, 6, 6, 7, 7, 7, 7, 7, 7, 7, 7, 7, 7, 7, 7, 7, 7, 7, 7, 7, 7, 7, 7, 7, 7, 7, 7, 7, 7, 7, 7, 7, 7, 7, 7, 7, 7, 7, 7, 7, 7, 7, 7, 7, 7, 7, 7, 7, 7, 7, 7, 7, 7, 7, 7, 7, 7, 7, 7, 7, 7, 7, 7, 7, 7, 7, 7, 8, 8, 8, 8, 8, 8, 8, 8, 8, 8, 8, 8, 8, 8, 8, 8, 8, 8, 8, 8, 8, 8, 8, 8, 8, 8, 8, 8, 8, 8, 8, 8, 8, 8, 8, 8, 8, 8, 8, 8, 8, 8, 8, 8, 8, 8, 8, 8, 8, 8, 8, 8, 8, 8, 8, 8, 8, 8, 8, 8, 8, 8, 8, 8, 8, 8, 8, 8, 8, 8, 8, 8, 8, 8, 8, 8, 8, 8, 8, 8, 8, 8, 8, 8, 8, 8, 8, 8, 8, 8, 8, 8, 8, 8, 8, 8, 8, 8, 8, 8, 8, 8, 8, 8, 8, 8, 8, 8, 8, 8, 8, 8, 8, 8, 8, 8, 8, 8, 8, 8, 8, 8, 8, 8, 8, 8, 8, 8]⟩ : ByteArray) (ji6)
       replace p9 := eq_true p9
       replace q9 := eq_true q9
       go_wp2
       go_ret
       exact ⟨by first | rfl | (simp; done) | (simp only [← hji6] <;> (first | rfl | simp)) | (simp [*]; done), by repeat (first | exact Drawn0.refl _ | apply Drawn0.step)⟩
      ·rw [if_neg c8] at H
       exact absurd H (by simp)
     ·rw [if_neg c7] at H
      exact absurd H (by simp)
    ·rw [if_neg c5] at H
     have c5b0 : decide (256 ≤ (x0_1 / 65536)) = false := decide_eq_false c5
     clear c5
     obtain ⟨ji10, hji10⟩ : ∃ j_ : Int, ((x0_1 / 65536) % 256) = j_ := ⟨_, rfl⟩
     (first | rw [hji10] at H | simp only [hji10] at H)
     by_cases c11 : 0 ≤ (ji10)
     ·rw [if_pos c11] at H
      have c11b0 : decide (0 ≤ (ji10)) = true := decide_eq_true c11
      clear c11
      by_cases c12 : (ji10) < 256
      ·rw [if_pos c12] at H
       have c12b0 : decide ((ji10) < 256) = true := decide_eq_true c12
       clear c12
       obtain rfl := Option.some.inj H
       have p13 : 0 ≤ ((ji10) : Int) := of_decide_eq_true (by first | (with_reducible assumption) | assumption)
       have q13 : (ji10) < (256 : Int) := of_decide_eq_true (by first | (with_reducible assumption) | assumption)
       have hx13 := bt_at (⟨#[0, 1, 2, 2, 3, 3, 3, 3, 4, 4, 4, 4, 4, 4, 4, 4, 5, 5, 5, 5, 5, 5, 5, 5, 5, 5, 5, 5, 5, 5, 5, 5, 6, 6, 6, 6, 6, 6, 6, 6, 6, 6, 6, 6, 6, 6, 6, 6, 6, 6, 6, 6, 6, 6, 6, 6, 6, 6, 6, 6, 6, 6, 6, 6, 7, 7, 7, 7, 7, 7, 7, 7, 7, 7, 7, 7, 7, 7, 7, 7, 7, 7, 7, 7, 7, 7, 7, 7, 7, 7, 7, 7, 7, 7, 7, 7, 7, 7, 7, 7, 7, 7, 7, 7, 7, 7, 7, 7, 7, 7, 7, 7, 7, 7, 7, 7, 7, 7, 7, 7, 7, 7, 7, 7, 7, 7, 7, 7, 8, 8, 8, 8, 8, 8, 8, 8, 8, 8, 8, 8, 8, 8, 8, 8, 8, 8, 8, 8, 8, 8, 8, 8, 8, 8, 8, 8, 8, 8, 8, 8, 8, 8, 8, 8, 8, 8, 8, 8, 8, 8, 8, 8, 8, 8, 8, 8, 8, 8, 8, 8, 8, 8, 8, 8, 8, 8, 8, 8, 8, 8, 8, 8, 8, 8, 8, 8, 8, 8, 8, 8, 8, 8, 8, 8, 8, 8, 8, 8, 8, 8, 8, 8, 8, 8, 8, 8, 8, 8, 8, 8, 8, 8, 8, 8, 8, 8, 8, 8, 8, 8, 8, 8, 8, 8, 8, 8, 8, 8, 8, 8, 8, 8, 8, 8, 8, 8, 8, 8, 8, 8, 8, 8, 8, 8, 8, 8]⟩ : ByteArray) (ji10)
       replace p13 := eq_true p13
       replace q13 := eq_true q13
       go_wp2
       go_ret
       exact ⟨by first | rfl | (simp; done) | (simp only [← hji10] <;> (first | rfl | simp)) | (simp [*]; done), by repeat (first | exact Drawn0.refl _ | apply Drawn0.step)⟩
      ·rw [if_neg c12] at H
       exact absurd H (by simp)
     ·rw [if_neg c11] at H
      exact absurd H (by simp)
   ·rw [if_neg c4] at H
    have c4b0 : decide (65536 ≤ x0_1) = false := decide_eq_false c4
    clear c4
    by_cases c14 : x0_1 ≥ 256
    ·rw [if_pos c14] at H
     have c14b0 : decide (256 ≤ x0_1) = true := decide_eq_true c14
     clear c14
     obtain ⟨ji15, hji15⟩ : ∃ j_ : Int, ((x0_1 / 256) % 256) = j_ := ⟨_, rfl⟩
     (first | rw [hji15] at H | simp only [hji15] at H)
     by_cases c16 : 0 ≤ (ji15)
     ·rw [if_pos c16] at H
      have c16b0 : decide (0 ≤ (ji15)) = true := decide_eq_true c16
      clear c16
      by_cases c17 : (ji15) < 256
      ·rw [if_pos c17] at H
       have c17b0 : decide ((ji15) < 256) = true := decide_eq_true c17
       clear c17
       obtain rfl := Option.some.inj H
       have p18 : 0 ≤ ((ji15) : Int) := of_decide_eq_true (by first | (with_reducible assumption) | assumption)
       have q18 : (ji15) < (256 : Int) := of_decide_eq_true (by first | (with_reducible assumption) | assumption)
       have hx18 := bt_at (⟨#[0, 1, 2, 2, 3, 3, 3, 3, 4, 4, 4, 4, 4, 4, 4, 4, 5, 5, 5, 5, 5, 5, 5, 5, 5, 5, 5, 5, 5, 5, 5, 5, 6, 6, 6, 6, 6, 6, 6, 6, 6, 6, 6, 6, 6, 6, 6, 6, 6, 6, 6, 6, 6, 6, 6, 6, 6, 6, 6, 6, 6, 6, 6, 6, 7, 7, 7, 7, 7, 7, 7, 7, 7, 7, 7, 7, 7, 7, 7, 7, 7, 7, 7, 7, 7, 7, 7, 7, 7, 7, 7, 7, 7, 7, 7, 7, 7, 7, 7, 7, 7, 7, 7, 7, 7, 7, 7, 7, 7, 7, 7, 7, 7, 7, 7, 7, 7, 7, 7, 7, 7, 7, 7, 7, 7, 7, 7, 7, 8, 8, 8, 8, 8, 8, 8, 8, 8, 8, 8, 8, 8, 8, 8, 8, 8, 8, 8, 8, 8, 8, 8, 8, 8, 8, 8, 8, 8, 8, 8, 8, 8, 8, 8, 8, 8, 8, 8, 8, 8, 8, 8, 8, 8, 8, 8, 8, 8, 8, 8, 8, 8, 8, 8, 8, 8, 8, 8, 8, 8, 8, 8, 8, 8, 8, 8, 8, 8, 8, 8, 8, 8, 8, 8, 8, 8, 8, 8, 8, 8, 8, 8, 8, 8, 8, 8, 8, 8, 8, 8, 8, 8, 8, 8, 8, 8, 8, 8, 8, 8, 8, 8, 8, 8, 8, 8, 8, 8, 8, 8, 8, 8, 8, 8, 8, 8, 8, 8, 8, 8, 8, 8, 8, 8, 8, 8, 8]⟩ : ByteArray) (ji15)
       replace p18 := eq_true p18
       replace q18 := eq_true q18
       go_wp2
       go_ret
       exact ⟨by first | rfl | (simp; done) | (simp only [← hji15] <;> (first | rfl | simp)) | (simp [*]; done), by repeat (first | exact Drawn0.refl _ | apply Drawn0.step)⟩
      ·rw [if_neg c17] at H
       exact absurd H (by simp)
     ·rw [if_neg c16] at H
      exact absurd H (by simp)
    ·rw [if_neg c14] at H
     have c14b0 : decide (256 ≤ x0_1) = false := decide_eq_false c14
     clear c14
     obtain ⟨ji19, hji19⟩ : ∃ j_ : Int, ((x0_1) % 256) = j_ := ⟨_, rfl⟩
     (first | rw [hji19] at H | simp only [hji19] at H)
     by_cases c20 : 0 ≤ (ji19)
     ·rw [if_pos c20] at H
      have c20b0 : decide (0 ≤ (ji19)) = true := decide_eq_true c20
      clear c20
      by_cases c21 : (ji19) < 256
      ·rw [if_pos c21] at H
       have c21b0 : decide ((ji19) < 256) = true := decide_eq_true c21
       clear c21
       obtain rfl := Option.some.inj H
       have p22 : 0 ≤ ((ji19) : Int) := of_decide_eq_true (by first | (with_reducible assumption) | assumption)
       have q22 : (ji19) < (256 : Int) := of_decide_eq_true (by first | (with_reducible assumption) | assumption)
       have hx22 := bt_at (⟨#[0, 1, 2, 2, 3, 3, 3, 3, 4, 4, 4, 4, 4, 4, 4, 4, 5, 5, 5, 5, 5, 5, 5, 5, 5, 5, 5, 5, 5, 5, 5, 5, 6, 6, 6, 6, 6, 6, 6, 6, 6, 6, 6, 6, 6, 6, 6, 6, 6, 6, 6, 6, 6, 6, 6, 6, 6, 6, 6, 6, 6, 6, 6, 6, 7, 7, 7, 7, 7, 7, 7, 7, 7, 7, 7, 7, 7, 7, 7, 7, 7, 7, 7, 7, 7, 7, 7, 7, 7, 7, 7, 7, 7, 7, 7, 7, 7, 7, 7, 7, 7, 7, 7, 7, 7, 7, 7, 7, 7, 7, 7, 7, 7, 7, 7, 7, 7, 7, 7, 7, 7, 7, 7, 7, 7, 7, 7, 7, 8, 8, 8, 8, 8, 8, 8, 8, 8, 8, 8, 8, 8, 8, 8, 8, 8, 8, 8, 8, 8, 8, 8, 8, 8, 8, 8, 8, 8, 8, 8, 8, 8, 8, 8, 8, 8, 8, 8, 8, 8, 8, 8, 8, 8, 8, 8, 8, 8, 8, 8, 8, 8, 8, 8, 8, 8, 8, 8, 8, 8, 8, 8, 8, 8, 8, 8, 8, 8, 8, 8, 8, 8, 8, 8, 8, 8, 8, 8, 8, 8, 8, 8, 8, 8, 8, 8, 8, 8, 8, 8, 8, 8, 8, 8, 8, 8, 8, 8, 8, 8, 8, 8, 8, 8, 8, 8, 8, 8, 8, 8, 8, 8, 8, 8, 8, 8, 8, 8, 8, 8, 8, 8, 8, 8, 8, 8, 8]⟩ : ByteArray) (ji19)
       replace p22 := eq_true p22
       replace q22 := eq_true q22
       go_wp2
       go_ret
       exact ⟨by first | rfl | (simp; done) | (simp only [← hji19] <;> (first | rfl | simp)) | (simp [*]; done), by repeat (first | exact Drawn0.refl _ | apply Drawn0.step)⟩
      ·rw [if_neg c21] at H
       exact absurd H (by simp)
     ·rw [if_neg c20] at H
      exact absurd H (by simp)

/-! ### bits_LeadingZeros64: function 28 -/
set_option maxHeartbeats 8000000 in
set_option maxRecDepth 100000 in
theorem bits_LeadingZeros64.calls (k : Nat) (a0 : Int) (r : Int) (w : World) (h : bits_LeadingZeros64.f k a0 = some r) :
  Calls Tryd.prog 28 #[.int .u64 a0] w fun e w' => e = .returned (.int .i64 r) ∧ Drawn0 w w' := by
 have H : ((bits_Len64.f k a0).bind fun t164 => (some (wrap64 (64 - t164)))) = some r := h
 clear h
 replace H := Option.bind_eq_some_iff.mp H
 obtain ⟨t164, A20, H⟩ := H
 (try dsimp only at H)
 have A2 := Aside0.mk A20
 clear A20
 obtain rfl := Option.some.inj H
 go_enter Tryd.func28, Tryd.ntmps28
 go_wp2_with (first | ((with_reducible refine gate_callee (f := 47) rfl ?_); refine gl_ (some 4) Tryd.func47 #[.int .u64 a0] ?_; (with_reducible refine (bits_Len64.calls k a0 t164 _ A2.out).mono ?_); rintro e w' ⟨rfl, ⟨nd, rfl⟩⟩; refine ⟨_, rfl, ?_⟩))
 go_ret
 exact ⟨by first | rfl | (simp; done) | (simp [*]; done), by repeat (first | exact Drawn0.refl _ | apply Drawn0.step)⟩

/-! ### arith_minus: function 25 -/
set_option maxHeartbeats 8000000 in
set_option maxRecDepth 100000 in
theorem arith_minus.calls (k : Nat) (a0_0 : Int) (a0_1 : Bool) (a0_2 : Int) (a0_3 : Int) (a1_0 : Int) (a1_1 : Bool) (a1_2 : Int) (a1_3 : Int) (a2 : Bool) (r1 : Int) (r2 : Bool) (r3 : Int) (r4 : Int) (w : World) (h : arith_minus.f k a0_0 a0_1 a0_2 a0_3 a1_0 a1_1 a1_2 a1_3 a2 = some (r1, r2, r3, r4)) :
  Calls Tryd.prog 25 #[.agg #[.int .i64 a0_0, .bool a0_1, .int .u64 a0_2, .int .i64 a0_3], .agg #[.int .i64 a1_0, .bool a1_1, .int .u64 a1_2, .int .i64 a1_3], .bool a2] w fun e w' => e = .returned (.agg #[.int .i64 r1, .bool r2, .int .u64 r3, .int .i64 r4]) ∧ Below w.heap.size w w' := by
 have hu24 := Tryd.underlying24
 have hu67 := Tryd.underlying67
 have HB := Aside0.mk (Below.refl w.heap.size w)
 have H : ((arith_lower.f a1_2 (wrap64 (a0_3 - a1_3))).bind fun bt168 => (if bt168.2.2 = true then (arith_minus.j0 k a2 1 a0_0 a0_1 a0_2 a0_3 bt168.1 bt168.2.1 bt168.2.2) else (arith_minus.j0 k a2 0 a0_0 a0_1 a0_2 a0_3 bt168.1 bt168.2.1 bt168.2.2))) = some (r1, r2, r3, r4) := h
 clear h
 replace H := Option.bind_eq_some_iff.mp H
 obtain ⟨⟨t168, t169, t170⟩, A40, H⟩ := H
 (try dsimp only at H)
 have A4 := Aside0.mk A40
 clear A40
 have HC5 := Aside0.mk H
 clear H
 go_enter Tryd.func25, Tryd.ntmps25
 go_upto_if 24 with (first | ((with_reducible refine gate_dst (N := 3) rfl ?_); refine bx_ 3 #[.int .i64 a0_0, .bool a0_1, .int .u64 a0_2, .int .i64 a0_3] 24 ?_; intro gb165 hg w6 hbox hb; have BK165 := Aside0.mk (hbox); have GW165 := ge_ hg HB; have GE165 := ge_ hg HB; replace HB := bq_ HB hb; clear hb hbox hg) | ((with_reducible refine gate_dst (N := 4) rfl ?_); refine bx_ 4 #[.int .i64 a1_0, .bool a1_1, .int .u64 a1_2, .int .i64 a1_3] 24 ?_; intro gb166 hg w7 hbox hb; have BK166 := Aside0.mk (hbox); have GW166 := ge_ hg HB; have GE166 := ge_ hg HB; have NB165_166 := nb_ hg BK165; have NB166_165 := nc_ hg BK165; replace BK165 := kq_ BK165 hb; replace HB := bq_ HB hb; clear hb hbox hg) | ((with_reducible refine gate_dst (N := 6) rfl ?_); refine bx_ 6 #[.int .i64 0, .bool false, .int .u64 0, .int .i64 0] 24 ?_; intro gb167 hg w8 hbox hb; have BK167 := Aside0.mk (hbox); have GW167 := ge_ hg HB; have GE167 := ge_ hg HB; have NB165_167 := nb_ hg BK165; have NB167_165 := nc_ hg BK165; have NB166_167 := nb_ hg BK166; have NB167_166 := nc_ hg BK166; replace BK165 := kq_ BK165 hb; replace BK166 := kq_ BK166 hb; replace HB := bq_ HB hb; clear hb hbox hg; have hnb9 := NB166_165.out; have hnc9 := NB165_166.out; have hnb10 := NB166_167.out; have hnc10 := NB167_166.out; obtain ⟨hcz11_0, hcz11_1, hcz11_2, hcz11_3, hfz11_0, hfz11_1, hfz11_2, hfz11_3⟩ := c4_ BK166; have hnb12 := NB165_167.out; have hnc12 := NB167_165.out; obtain ⟨hcz13_0, hcz13_1, hcz13_2, hcz13_3, hfz13_0, hfz13_1, hfz13_2, hfz13_3⟩ := c4_ BK165) | (go_at_call 44; (with_reducible refine (arith_lower.calls a1_2 (wrap64 (a0_3 - a1_3)) t168 t169 t170 _ A4.out).mono ?_); rintro e w14 ⟨rfl, hb⟩; replace BK165 := kq_ BK165 hb; replace BK166 := kq_ BK166 hb; replace BK167 := kq_ BK167 hb; replace HB := bq_ HB hb; (try clear hb); (try clear hb2); (try clear hk); (try clear hi)) | ((with_reducible refine gate_dst (N := 7) rfl ?_); refine bx_ 7 #[.int .u64 0, .int .u64 0, .bool false] 67 ?_; intro gb171 hg w15 hbox hb; have BK171 := Aside0.mk (hbox); have GW171 := ge_ hg HB; have GE171 := ge_ hg HB; have NB165_171 := nb_ hg BK165; have NB171_165 := nc_ hg BK165; have NB166_171 := nb_ hg BK166; have NB171_166 := nc_ hg BK166; have NB167_171 := nb_ hg BK167; have NB171_167 := nc_ hg BK167; replace BK165 := kq_ BK165 hb; replace BK166 := kq_ BK166 hb; replace BK167 := kq_ BK167 hb; replace HB := bq_ HB hb; clear hb hbox hg; have hnb16 := NB171_165.out; have hnc16 := NB165_171.out; have hnb17 := NB171_166.out; have hnc17 := NB166_171.out; have hnb18 := NB171_167.out; have hnc18 := NB167_171.out; obtain ⟨hcz19_0, hcz19_1, hcz19_2, hfz19_0, hfz19_1, hfz19_2⟩ := c3_ BK171))
 repeat (go_quiet (fail); go_upto_if 24 with (first | ((with_reducible refine gate_dst (N := 3) rfl ?_); refine bx_ 3 #[.int .i64 a0_0, .bool a0_1, .int .u64 a0_2, .int .i64 a0_3] 24 ?_; intro gb165 hg w6 hbox hb; have BK165 := Aside0.mk (hbox); have GW165 := ge_ hg HB; have GE165 := ge_ hg HB; replace HB := bq_ HB hb; clear hb hbox hg) | ((with_reducible refine gate_dst (N := 4) rfl ?_); refine bx_ 4 #[.int .i64 a1_0, .bool a1_1, .int .u64 a1_2, .int .i64 a1_3] 24 ?_; intro gb166 hg w7 hbox hb; have BK166 := Aside0.mk (hbox); have GW166 := ge_ hg HB; have GE166 := ge_ hg HB; have NB165_166 := nb_ hg BK165; have NB166_165 := nc_ hg BK165; replace BK165 := kq_ BK165 hb; replace HB := bq_ HB hb; clear hb hbox hg) | ((with_reducible refine gate_dst (N := 6) rfl ?_); refine bx_ 6 #[.int .i64 0, .bool false, .int .u64 0, .int .i64 0] 24 ?_; intro gb167 hg w8 hbox hb; have BK167 := Aside0.mk (hbox); have GW167 := ge_ hg HB; have GE167 := ge_ hg HB; have NB165_167 := nb_ hg BK165; have NB167_165 := nc_ hg BK165; have NB166_167 := nb_ hg BK166; have NB167_166 := nc_ hg BK166; replace BK165 := kq_ BK165 hb; replace BK166 := kq_ BK166 hb; replace HB := bq_ HB hb; clear hb hbox hg; have hnb9 := NB166_165.out; have hnc9 := NB165_166.out; have hnb10 := NB166_167.out; have hnc10 := NB167_166.out; obtain ⟨hcz11_0, hcz11_1, hcz11_2, hcz11_3, hfz11_0, hfz11_1, hfz11_2, hfz11_3⟩ := c4_ BK166; have hnb12 := NB165_167.out; have hnc12 := NB167_165.out; obtain ⟨hcz13_0, hcz13_1, hcz13_2, hcz13_3, hfz13_0, hfz13_1, hfz13_2, hfz13_3⟩ := c4_ BK165) | (go_at_call 44; (with_reducible refine (arith_lower.calls a1_2 (wrap64 (a0_3 - a1_3)) t168 t169 t170 _ A4.out).mono ?_); rintro e w14 ⟨rfl, hb⟩; replace BK165 := kq_ BK165 hb; replace BK166 := kq_ BK166 hb; replace BK167 := kq_ BK167 hb; replace HB := bq_ HB hb; (try clear hb); (try clear hb2); (try clear hk); (try clear hi)) | ((with_reducible refine gate_dst (N := 7) rfl ?_); refine bx_ 7 #[.int .u64 0, .int .u64 0, .bool false] 67 ?_; intro gb171 hg w15 hbox hb; have BK171 := Aside0.mk (hbox); have GW171 := ge_ hg HB; have GE171 := ge_ hg HB; have NB165_171 := nb_ hg BK165; have NB171_165 := nc_ hg BK165; have NB166_171 := nb_ hg BK166; have NB171_166 := nc_ hg BK166; have NB167_171 := nb_ hg BK167; have NB171_167 := nc_ hg BK167; replace BK165 := kq_ BK165 hb; replace BK166 := kq_ BK166 hb; replace BK167 := kq_ BK167 hb; replace HB := bq_ HB hb; clear hb hbox hg; have hnb16 := NB171_165.out; have hnc16 := NB165_171.out; have hnb17 := NB171_166.out; have hnc17 := NB166_171.out; have hnb18 := NB171_167.out; have hnc18 := NB167_171.out; obtain ⟨hcz19_0, hcz19_1, hcz19_2, hfz19_0, hfz19_1, hfz19_2⟩ := c3_ BK171)))
 (try simp only [Act.put, List.setIfInBounds_toArray, List.set_cons_zero, List.set_cons_succ])
 go_cut [8] (fun v8 wc => ∃ (kq : Nat) (x8_4 : Int), v8 = .int .u64 x8_4 ∧ Aside0 (arith_minus.j0 kq a2 x8_4 a0_0 a0_1 a0_2 a0_3 t168 t169 t170 = some (r1, r2, r3, r4)) ∧ Aside0 (kq ≤ k) ∧ Aside0 (wc.heap[gb165]? = some (.cells #[.int .i64 a0_0, .bool a0_1, .int .u64 a0_2, .int .i64 a0_3] 24 (0, 0))) ∧ Aside0 (wc.heap[gb166]? = some (.cells #[.int .i64 a1_0, .bool a1_1, .int .u64 a1_2, .int .i64 a1_3] 24 (0, 0))) ∧ Aside0 (wc.heap[gb167]? = some (.cells #[.int .i64 0, .bool false, .int .u64 0, .int .i64 0] 24 (0, 0))) ∧ Aside0 (wc.heap[gb171]? = some (.cells #[.int .u64 t168, .int .u64 t169, .bool t170] 67 (0, 0))) ∧ Aside0 (Below w.heap.size w wc))
 case first =>
  have H := HC5.out
  clear HC5
  by_cases c20 : t170 = true
  ·subst c20
   have H1 : (arith_minus.j0 k a2 1 a0_0 a0_1 a0_2 a0_3 t168 t169 true) = some (r1, r2, r3, r4) := by rw [if_pos rfl] at H; exact H
   clear H
   have H := H1
   clear H1
   have H' := Aside0.mk H
   clear H
   go_wp2
   repeat (go_quiet (fail); try go_wp2)
   go_meet
   case rel => exact ⟨_, (1), (by first | rfl | (simp; done) | (simp [*]; done)), H', ⟨by first | omega | exact Nat.le_refl _⟩, ⟨by refine kb_ ?_; refine bf_ NB165_171 ?_; refine bf_ NB165_171 ?_; refine bf_ NB165_171 ?_; exact BK165.out⟩, ⟨by refine kb_ ?_; refine bf_ NB166_171 ?_; refine bf_ NB166_171 ?_; refine bf_ NB166_171 ?_; exact BK166.out⟩, ⟨by refine kb_ ?_; refine bf_ NB167_171 ?_; refine bf_ NB167_171 ?_; refine bf_ NB167_171 ?_; exact BK167.out⟩, ⟨by refine kb_ ?_; refine bp_ #[.int .u64 t168, .int .u64 t169, .bool false] 2 ?_; refine bp_ #[.int .u64 t168, .int .u64 0, .bool false] 1 ?_; refine bp_ #[.int .u64 0, .int .u64 0, .bool false] 0 ?_; exact BK171.out⟩, ⟨bw_ HB.out⟩⟩
  ·replace c20 := Bool.eq_false_iff.mpr c20
   subst c20
   have H1 : (arith_minus.j0 k a2 0 a0_0 a0_1 a0_2 a0_3 t168 t169 false) = some (r1, r2, r3, r4) := by rw [if_neg (show ¬ (false = true) by decide)] at H; exact H
   clear H
   have H := H1
   clear H1
   have H' := Aside0.mk H
   clear H
   go_wp2
   repeat (go_quiet (fail); try go_wp2)
   go_meet
   case rel => exact ⟨_, (0), (by first | rfl | (simp; done) | (simp [*]; done)), H', ⟨by first | omega | exact Nat.le_refl _⟩, ⟨by refine kb_ ?_; refine bf_ NB165_171 ?_; refine bf_ NB165_171 ?_; refine bf_ NB165_171 ?_; exact BK165.out⟩, ⟨by refine kb_ ?_; refine bf_ NB166_171 ?_; refine bf_ NB166_171 ?_; refine bf_ NB166_171 ?_; exact BK166.out⟩, ⟨by refine kb_ ?_; refine bf_ NB167_171 ?_; refine bf_ NB167_171 ?_; refine bf_ NB167_171 ?_; exact BK167.out⟩, ⟨by refine kb_ ?_; refine bp_ #[.int .u64 t168, .int .u64 t169, .bool false] 2 ?_; refine bp_ #[.int .u64 t168, .int .u64 0, .bool false] 1 ?_; refine bp_ #[.int .u64 0, .int .u64 0, .bool false] 0 ?_; exact BK171.out⟩, ⟨bw_ HB.out⟩⟩
 case rest =>
  clear HC5
  try clear c1
  try clear c2
  try clear p2
  try clear p6
  try clear c9
  try clear c10
  try clear c12
  try clear c16
  try clear c17
  try clear c18
  try clear c20
  try clear hcz11_0 hcz11_1 hcz11_2 hcz11_3
  try clear hcz13_0 hcz13_1 hcz13_2 hcz13_3
  try clear hcz19_0 hcz19_1 hcz19_2
  try clear hfz11_0 hfz11_1 hfz11_2 hfz11_3
  try clear hfz13_0 hfz13_1 hfz13_2 hfz13_3
  try clear hfz19_0 hfz19_1 hfz19_2
  obtain ⟨kq, x8_4, rfl, HA, HJ4, BK165, BK166, BK167, BK171, HB⟩ := hcut
  cases kq with
  | zero => exact absurd HA.out (by simp [arith_minus.j0])
  | succ kj4 =>
   have H := HA.out
   clear HA
   simp only [arith_minus.j0] at H
   replace H := Option.bind_eq_some_iff.mp H
   obtain ⟨⟨t172, t173⟩, A210, H⟩ := H
   (try dsimp only at H)
   have A21 := Aside0.mk A210
   clear A210
   replace H := Option.bind_eq_some_iff.mp H
   obtain ⟨⟨t174, t175⟩, A220, H⟩ := H
   (try dsimp only at H)
   have A22 := Aside0.mk A220
   clear A220
   have HC23 := Aside0.mk H
   clear H
   have hnb24 := NB171_165.out
   have hnc24 := NB165_171.out
   have hnb25 := NB171_166.out
   have hnc25 := NB166_171.out
   have hnb26 := NB171_167.out
   have hnc26 := NB167_171.out
   obtain ⟨hcz27_0, hcz27_1, hcz27_2, hfz27_0, hfz27_1, hfz27_2⟩ := c3_ BK171
   go_upto_if 44 with (first | ((with_reducible refine gate_callee (f := 46) rfl ?_); refine goesX_ (some 29) rfl rfl #[.int .u64 0, .int .u64 t169, .int .u64 x8_4] rfl (by (try simp only [List.map_toArray, List.map_cons, List.map_nil]); first | done | rfl) ?_; (with_reducible refine (bits_Sub64.calls 0 t169 x8_4 t172 t173 _ A21.out).mono ?_); rintro e w' ⟨rfl, ⟨nd, rfl⟩⟩; refine ⟨_, rfl, ?_⟩; have hnb28 := NB165_166.out; have hnc28 := NB166_165.out; have hnb29 := NB165_167.out; have hnc29 := NB167_165.out; obtain ⟨hcz30_0, hcz30_1, hcz30_2, hcz30_3, hfz30_0, hfz30_1, hfz30_2, hfz30_3⟩ := c4_ BK165) | ((with_reducible refine gate_callee (f := 46) rfl ?_); refine goesX_ (some 38) rfl rfl #[.int .u64 a0_2, .int .u64 t168, .int .u64 t173] rfl (by (try simp only [List.map_toArray, List.map_cons, List.map_nil]); first | done | rfl) ?_; (with_reducible refine (bits_Sub64.calls a0_2 t168 t173 t174 t175 _ A22.out).mono ?_); rintro e w' ⟨rfl, ⟨nd, rfl⟩⟩; refine ⟨_, rfl, ?_⟩))
   repeat (go_quiet (first | ((with_reducible refine gate_callee (f := 46) rfl ?_); refine goesX_ (some 29) rfl rfl #[.int .u64 0, .int .u64 t169, .int .u64 x8_4] rfl (by (try simp only [List.map_toArray, List.map_cons, List.map_nil]); first | done | rfl) ?_; (with_reducible refine (bits_Sub64.calls 0 t169 x8_4 t172 t173 _ A21.out).mono ?_); rintro e w' ⟨rfl, ⟨nd, rfl⟩⟩; refine ⟨_, rfl, ?_⟩; have hnb28 := NB165_166.out; have hnc28 := NB166_165.out; have hnb29 := NB165_167.out; have hnc29 := NB167_165.out; obtain ⟨hcz30_0, hcz30_1, hcz30_2, hcz30_3, hfz30_0, hfz30_1, hfz30_2, hfz30_3⟩ := c4_ BK165) | ((with_reducible refine gate_callee (f := 46) rfl ?_); refine goesX_ (some 38) rfl rfl #[.int .u64 a0_2, .int .u64 t168, .int .u64 t173] rfl (by (try simp only [List.map_toArray, List.map_cons, List.map_nil]); first | done | rfl) ?_; (with_reducible refine (bits_Sub64.calls a0_2 t168 t173 t174 t175 _ A22.out).mono ?_); rintro e w' ⟨rfl, ⟨nd, rfl⟩⟩; refine ⟨_, rfl, ?_⟩)); go_upto_if 44 with (first | ((with_reducible refine gate_callee (f := 46) rfl ?_); refine goesX_ (some 29) rfl rfl #[.int .u64 0, .int .u64 t169, .int .u64 x8_4] rfl (by (try simp only [List.map_toArray, List.map_cons, List.map_nil]); first | done | rfl) ?_; (with_reducible refine (bits_Sub64.calls 0 t169 x8_4 t172 t173 _ A21.out).mono ?_); rintro e w' ⟨rfl, ⟨nd, rfl⟩⟩; refine ⟨_, rfl, ?_⟩; have hnb28 := NB165_166.out; have hnc28 := NB166_165.out; have hnb29 := NB165_167.out; have hnc29 := NB167_165.out; obtain ⟨hcz30_0, hcz30_1, hcz30_2, hcz30_3, hfz30_0, hfz30_1, hfz30_2, hfz30_3⟩ := c4_ BK165) | ((with_reducible refine gate_callee (f := 46) rfl ?_); refine goesX_ (some 38) rfl rfl #[.int .u64 a0_2, .int .u64 t168, .int .u64 t173] rfl (by (try simp only [List.map_toArray, List.map_cons, List.map_nil]); first | done | rfl) ?_; (with_reducible refine (bits_Sub64.calls a0_2 t168 t173 t174 t175 _ A22.out).mono ?_); rintro e w' ⟨rfl, ⟨nd, rfl⟩⟩; refine ⟨_, rfl, ?_⟩)))
   (try simp only [Act.put, List.setIfInBounds_toArray, List.set_cons_zero, List.set_cons_succ])
   go_cut [9, 11, 13] (fun v9 v11 v13 wc => ∃ (kq : Nat) (x9_22 : Int) (x11_22 : Int) (x13_22 : Int), v9 = .int .u64 x9_22 ∧ v11 = .int .u64 x11_22 ∧ v13 = .int .i64 x13_22 ∧ Aside0 (arith_minus.j1 kq a2 x9_22 x11_22 x13_22 a0_0 a0_1 a0_2 a0_3 t168 t169 t170 = some (r1, r2, r3, r4)) ∧ Aside0 (kq ≤ kj4) ∧ Aside0 (wc.heap[gb165]? = some (.cells #[.int .i64 a0_0, .bool a0_1, .int .u64 a0_2, .int .i64 a0_3] 24 (0, 0))) ∧ Aside0 (wc.heap[gb166]? = some (.cells #[.int .i64 a1_0, .bool a1_1, .int .u64 a1_2, .int .i64 a1_3] 24 (0, 0))) ∧ Aside0 (wc.heap[gb167]? = some (.cells #[.int .i64 0, .bool false, .int .u64 0, .int .i64 0] 24 (0, 0))) ∧ Aside0 (wc.heap[gb171]? = some (.cells #[.int .u64 t168, .int .u64 t169, .bool t170] 67 (0, 0))) ∧ Aside0 (Below w.heap.size w wc))
   case first =>
    have H := HC23.out
    clear HC23
    by_cases c31 : t174 = 0
    ·rw [if_pos c31] at H
     have c31b0 : (t174 == 0) = true := beq_iff_eq.mpr c31
     have c31b1 : (t174 != 0) = false := bne_eq_false_iff_eq.mpr c31
     clear c31
     (first | rw [c31b0] | (simp only [i64_w, i32_w]; rw [c31b0]) | skip)
     have H' := Aside0.mk H
     clear H
     go_wp2
     repeat (go_quiet (fail); try go_wp2)
     go_meet
     case rel => exact ⟨_, (0), (t172), (wrap64 (a0_3 - 64)), (by first | rfl | (simp; done) | (simp [*]; done)), (by first | rfl | (simp; done) | (simp [*]; done)), (by first | rfl | (simp; done) | (simp [*]; done)), H', ⟨by have := HJ4.out; first | omega | exact Nat.le_refl _⟩, ⟨kb_ BK165.out⟩, ⟨kb_ BK166.out⟩, ⟨kb_ BK167.out⟩, ⟨kb_ BK171.out⟩, ⟨bw_ HB.out⟩⟩
    ·rw [if_neg c31] at H
     have c31b0 : (t174 == 0) = false := beq_eq_false_iff_ne.mpr c31
     have c31b1 : (t174 != 0) = true := bne_iff_ne.mpr c31
     (first | rw [c31b0] | (simp only [i64_w, i32_w]; rw [c31b0]) | skip)
     have H' := Aside0.mk H
     clear H
     go_wp2
     repeat (go_quiet (fail); try go_wp2)
     go_meet
     case rel => exact ⟨_, (t172), (t174), (a0_3), (by first | rfl | (simp; done) | (simp [*]; done)), (by first | rfl | (simp; done) | (simp [*]; done)), (by first | rfl | (simp; done) | (simp [*]; done)), H', ⟨by have := HJ4.out; first | omega | exact Nat.le_refl _⟩, ⟨kb_ BK165.out⟩, ⟨kb_ BK166.out⟩, ⟨kb_ BK167.out⟩, ⟨kb_ BK171.out⟩, ⟨bw_ HB.out⟩⟩
   case rest =>
    clear HC23
    try clear c1
    try clear c2
    try clear p2
    try clear c3
    try clear p6
    try clear c9
    try clear c10
    try clear c12
    try clear c16
    try clear c17
    try clear c18
    try clear c20
    try clear c24
    try clear c25
    try clear c26
    try clear c28
    try clear c29
    try clear c31
    try clear c31b0
    try clear c31b1
    try clear hcz11_0 hcz11_1 hcz11_2 hcz11_3
    try clear hcz13_0 hcz13_1 hcz13_2 hcz13_3
    try clear hcz19_0 hcz19_1 hcz19_2
    try clear hcz27_0 hcz27_1 hcz27_2
    try clear hcz30_0 hcz30_1 hcz30_2 hcz30_3
    try clear hfz11_0 hfz11_1 hfz11_2 hfz11_3
    try clear hfz13_0 hfz13_1 hfz13_2 hfz13_3
    try clear hfz19_0 hfz19_1 hfz19_2
    try clear hfz27_0 hfz27_1 hfz27_2
    try clear hfz30_0 hfz30_1 hfz30_2 hfz30_3
    try clear p2
    try clear p6
    obtain ⟨kq, x9_22, x11_22, x13_22, rfl, rfl, rfl, HA, HJ22, BK165, BK166, BK167, BK171, HB⟩ := hcut
    cases kq with
    | zero => exact absurd HA.out (by simp [arith_minus.j1])
    | succ kj22 =>
     have H := HA.out
     clear HA
     simp only [arith_minus.j1] at H
     replace H := Option.bind_eq_some_iff.mp H
     obtain ⟨t176, A320, H⟩ := H
     (try dsimp only at H)
     have A32 := Aside0.mk A320
     clear A320
     by_cases c33 : t176 > 0
     ·rw [if_pos c33] at H
      have c33b0 : decide (0 < t176) = true := decide_eq_true c33
      clear c33
      by_cases c34 : 0 ≤ t176
      ·rw [if_pos c34] at H
       have c34b0 := eq_true c34
       have c34b1 : decide (0 ≤ t176) = true := decide_eq_true c34
       clear c34
       obtain ⟨ji35, hji35⟩ : ∃ j_ : Int, (shl .u64 x11_22 t176) = j_ := ⟨_, rfl⟩
       (first | rw [hji35] at H | simp only [hji35] at H)
       (try rw [hji35] at A32)
       have hji35_ : (IntKind.u64.wrap (x11_22 * 2 ^ min t176.toNat 64)) = ji35 := hji35
       have hji35z : t176 ≤ 64 → (IntKind.u64.wrap (x11_22 * 2 ^ t176.toNat)) = ji35 := shl_small hji35
       obtain ⟨ji36, hji36⟩ : ∃ j_ : Int, (wrap64 (64 - t176)) = j_ := ⟨_, rfl⟩
       (first | rw [hji36] at H | simp only [hji36] at H)
       (try rw [hji36] at A32)
       have hji36w : (IntKind.i64.wrap (64 - t176)) = ji36 := (i64_w _).trans hji36
       by_cases c37 : 0 ≤ (ji36)
       ·rw [if_pos c37] at H
        have c37b0 := eq_true c37
        have c37b1 : decide (0 ≤ (ji36)) = true := decide_eq_true c37
        clear c37
        obtain ⟨ji38, hji38⟩ : ∃ j_ : Int, (shr .u64 x9_22 (ji36)) = j_ := ⟨_, rfl⟩
        (first | rw [hji38] at H | simp only [hji38] at H)
        (try rw [hji38] at A32)
        have hji38_ : (x9_22 / 2 ^ min (ji36).toNat 64) = ji38 := hji38
        have hji38z : (ji36) ≤ 64 → (x9_22 / 2 ^ (ji36).toNat) = ji38 := shr_small hji38
        have c39b0 := eq_true (of_decide_eq_true (by first | (with_reducible assumption) | assumption) : 0 ≤ t176)
        obtain ⟨ji40, hji40⟩ : ∃ j_ : Int, (shl .u64 x9_22 t176) = j_ := ⟨_, rfl⟩
        (first | rw [hji40] at H | simp only [hji40] at H)
        (try rw [hji40] at A32)
        have hji40_ : (IntKind.u64.wrap (x9_22 * 2 ^ min t176.toNat 64)) = ji40 := hji40
        have hji40z : t176 ≤ 64 → (IntKind.u64.wrap (x9_22 * 2 ^ t176.toNat)) = ji40 := shl_small hji40
        by_cases c41 : t170 = true
        ·subst c41
         have H1 : ((num_Grow.f kj22 a0_1 (Go.bits .or .u64 (ji35) (ji38)) (wrap64 (x13_22 - t176)) true (a2 != a0_1)).bind fun bt177 => (some (bt177.1, bt177.2.1, bt177.2.2.1, bt177.2.2.2))) = some (r1, r2, r3, r4) := by rw [if_pos rfl] at H; exact H
         clear H
         have H := H1
         clear H1
         replace H := Option.bind_eq_some_iff.mp H
         obtain ⟨⟨t177, t178, t179, t180⟩, A420, H⟩ := H
         (try dsimp only at H)
         have A42 := Aside0.mk A420
         clear A420
         simp only [Option.some.injEq, Prod.mk.injEq] at H
         obtain ⟨rfl, rfl, rfl, rfl⟩ := H
         iterate 2 (try go_wp2_with (first | (go_at_call 28; (with_reducible refine (bits_LeadingZeros64.calls kj22 x11_22 t176 _ A32.out).mono ?_); rintro e w' ⟨rfl, ⟨nd, rfl⟩⟩; (try first | exact ⟨rfl, _, World.drewN_drewN _ _ _⟩ | exact ⟨rfl, _, Eq.trans (World.drewN_drewN _ _ _) (congrArg (World.drewN _) (Nat.add_assoc _ _ _))⟩); have hnb43 := NB165_166.out; have hnc43 := NB166_165.out; have hnb44 := NB165_167.out; have hnc44 := NB167_165.out; have hnb45 := NB165_171.out; have hnc45 := NB171_165.out; obtain ⟨hcz46_0, hcz46_1, hcz46_2, hcz46_3, hfz46_0, hfz46_1, hfz46_2, hfz46_3⟩ := c4_ BK165; have hnb47 := NB171_166.out; have hnc47 := NB166_171.out; have hnb48 := NB171_167.out; have hnc48 := NB167_171.out; obtain ⟨hcz49_0, hcz49_1, hcz49_2, hfz49_0, hfz49_1, hfz49_2⟩ := c3_ BK171) | (go_at_call 27; (try simp only [bnb_]); (with_reducible refine (num_Grow.calls kj22 a0_1 (Go.bits .or .u64 (ji35) (ji38)) (wrap64 (x13_22 - t176)) true (a2 != a0_1) t177 t178 t179 t180 _ A42.out).mono ?_); rintro e w50 ⟨rfl, hb⟩; replace BK165 := kq_ BK165 hb; replace BK166 := kq_ BK166 hb; replace BK167 := kq_ BK167 hb; replace BK171 := kq_ BK171 hb; replace HB := bq_ HB hb; (try clear hb); (try clear hb2); (try clear hk); (try clear hi); have hnb51 := NB167_166.out; have hnc51 := NB166_167.out; obtain ⟨hcz52_0, hcz52_1, hcz52_2, hcz52_3, hfz52_0, hfz52_1, hfz52_2, hfz52_3⟩ := c4_ BK167)); try (go_quiet (first | (go_at_call 28; (with_reducible refine (bits_LeadingZeros64.calls kj22 x11_22 t176 _ A32.out).mono ?_); rintro e w' ⟨rfl, ⟨nd, rfl⟩⟩; (try first | exact ⟨rfl, _, World.drewN_drewN _ _ _⟩ | exact ⟨rfl, _, Eq.trans (World.drewN_drewN _ _ _) (congrArg (World.drewN _) (Nat.add_assoc _ _ _))⟩); have hnb43 := NB165_166.out; have hnc43 := NB166_165.out; have hnb44 := NB165_167.out; have hnc44 := NB167_165.out; have hnb45 := NB165_171.out; have hnc45 := NB171_165.out; obtain ⟨hcz46_0, hcz46_1, hcz46_2, hcz46_3, hfz46_0, hfz46_1, hfz46_2, hfz46_3⟩ := c4_ BK165; have hnb47 := NB171_166.out; have hnc47 := NB166_171.out; have hnb48 := NB171_167.out; have hnc48 := NB167_171.out; obtain ⟨hcz49_0, hcz49_1, hcz49_2, hfz49_0, hfz49_1, hfz49_2⟩ := c3_ BK171))))
         refine bodyPost_ret (results_cell_row rfl _ _ gb167 24 #[.int .i64 t177, .bool t178, .int .u64 t179, .int .i64 t180] (0, 0) _ rfl (by refine kb_ ?_; refine bp_ #[.int .i64 t177, .bool t178, .int .u64 t179, .int .i64 0] 3 ?_; refine bp_ #[.int .i64 t177, .bool t178, .int .u64 0, .int .i64 0] 2 ?_; refine bp_ #[.int .i64 t177, .bool false, .int .u64 0, .int .i64 0] 1 ?_; refine bp_ #[.int .i64 0, .bool false, .int .u64 0, .int .i64 0] 0 ?_; exact BK167.out) Tryd.underlying24 rfl (by kernel_rfl)) rfl ?_
         exact ⟨by first | rfl | (simp [errW_none, errW_some] <;> rfl) | (simp only [← hji35, ← hji36, ← hji38, ← hji40]; first | rfl | (simp [errW_none, errW_some] <;> rfl)) | (simp [*, errW_none, errW_some] <;> rfl), bw_ HB.out⟩
        ·replace c41 := Bool.eq_false_iff.mpr c41
         subst c41
         have H1 : ((num_Grow.f kj22 a0_1 (Go.bits .or .u64 (ji35) (ji38)) (wrap64 (x13_22 - t176)) ((ji40) != 0) (a2 != a0_1)).bind fun bt181 => (some (bt181.1, bt181.2.1, bt181.2.2.1, bt181.2.2.2))) = some (r1, r2, r3, r4) := by rw [if_neg (show ¬ (false = true) by decide)] at H; exact H
         clear H
         have H := H1
         clear H1
         replace H := Option.bind_eq_some_iff.mp H
         obtain ⟨⟨t181, t182, t183, t184⟩, A530, H⟩ := H
         (try dsimp only at H)
         have A53 := Aside0.mk A530
         clear A530
         simp only [Option.some.injEq, Prod.mk.injEq] at H
         obtain ⟨rfl, rfl, rfl, rfl⟩ := H
         iterate 2 (try go_wp2_with (first | (go_at_call 28; (with_reducible refine (bits_LeadingZeros64.calls kj22 x11_22 t176 _ A32.out).mono ?_); rintro e w' ⟨rfl, ⟨nd, rfl⟩⟩; (try first | exact ⟨rfl, _, World.drewN_drewN _ _ _⟩ | exact ⟨rfl, _, Eq.trans (World.drewN_drewN _ _ _) (congrArg (World.drewN _) (Nat.add_assoc _ _ _))⟩); have hnb54 := NB165_166.out; have hnc54 := NB166_165.out; have hnb55 := NB165_167.out; have hnc55 := NB167_165.out; have hnb56 := NB165_171.out; have hnc56 := NB171_165.out; obtain ⟨hcz57_0, hcz57_1, hcz57_2, hcz57_3, hfz57_0, hfz57_1, hfz57_2, hfz57_3⟩ := c4_ BK165; have hnb58 := NB171_166.out; have hnc58 := NB166_171.out; have hnb59 := NB171_167.out; have hnc59 := NB167_171.out; obtain ⟨hcz60_0, hcz60_1, hcz60_2, hfz60_0, hfz60_1, hfz60_2⟩ := c3_ BK171) | (go_at_call 27; (try simp only [bnb_]); (with_reducible refine (num_Grow.calls kj22 a0_1 (Go.bits .or .u64 (ji35) (ji38)) (wrap64 (x13_22 - t176)) ((ji40) != 0) (a2 != a0_1) t181 t182 t183 t184 _ A53.out).mono ?_); rintro e w61 ⟨rfl, hb⟩; replace BK165 := kq_ BK165 hb; replace BK166 := kq_ BK166 hb; replace BK167 := kq_ BK167 hb; replace BK171 := kq_ BK171 hb; replace HB := bq_ HB hb; (try clear hb); (try clear hb2); (try clear hk); (try clear hi); have hnb62 := NB167_166.out; have hnc62 := NB166_167.out; obtain ⟨hcz63_0, hcz63_1, hcz63_2, hcz63_3, hfz63_0, hfz63_1, hfz63_2, hfz63_3⟩ := c4_ BK167)); try (go_quiet (first | (go_at_call 28; (with_reducible refine (bits_LeadingZeros64.calls kj22 x11_22 t176 _ A32.out).mono ?_); rintro e w' ⟨rfl, ⟨nd, rfl⟩⟩; (try first | exact ⟨rfl, _, World.drewN_drewN _ _ _⟩ | exact ⟨rfl, _, Eq.trans (World.drewN_drewN _ _ _) (congrArg (World.drewN _) (Nat.add_assoc _ _ _))⟩); have hnb54 := NB165_166.out; have hnc54 := NB166_165.out; have hnb55 := NB165_167.out; have hnc55 := NB167_165.out; have hnb56 := NB165_171.out; have hnc56 := NB171_165.out; obtain ⟨hcz57_0, hcz57_1, hcz57_2, hcz57_3, hfz57_0, hfz57_1, hfz57_2, hfz57_3⟩ := c4_ BK165; have hnb58 := NB171_166.out; have hnc58 := NB166_171.out; have hnb59 := NB171_167.out; have hnc59 := NB167_171.out; obtain ⟨hcz60_0, hcz60_1, hcz60_2, hfz60_0, hfz60_1, hfz60_2⟩ := c3_ BK171))))
         refine bodyPost_ret (results_cell_row rfl _ _ gb167 24 #[.int .i64 t181, .bool t182, .int .u64 t183, .int .i64 t184] (0, 0) _ rfl (by refine kb_ ?_; refine bp_ #[.int .i64 t181, .bool t182, .int .u64 t183, .int .i64 0] 3 ?_; refine bp_ #[.int .i64 t181, .bool t182, .int .u64 0, .int .i64 0] 2 ?_; refine bp_ #[.int .i64 t181, .bool false, .int .u64 0, .int .i64 0] 1 ?_; refine bp_ #[.int .i64 0, .bool false, .int .u64 0, .int .i64 0] 0 ?_; exact BK167.out) Tryd.underlying24 rfl (by kernel_rfl)) rfl ?_
         exact ⟨by first | rfl | (simp [errW_none, errW_some] <;> rfl) | (simp only [← hji35, ← hji36, ← hji38, ← hji40]; first | rfl | (simp [errW_none, errW_some] <;> rfl)) | (simp [*, errW_none, errW_some] <;> rfl), bw_ HB.out⟩
       ·rw [if_neg c37] at H
        exact absurd H (by simp)
      ·rw [if_neg c34] at H
       exact absurd H (by simp)
     ·rw [if_neg c33] at H
      have c33b0 : decide (0 < t176) = false := decide_eq_false c33
      clear c33
      by_cases c64 : t170 = true
      ·subst c64
       have H1 : ((num_Grow.f kj22 a0_1 x11_22 x13_22 true (a2 != a0_1)).bind fun bt185 => (some (bt185.1, bt185.2.1, bt185.2.2.1, bt185.2.2.2))) = some (r1, r2, r3, r4) := by rw [if_pos rfl] at H; exact H
       clear H
       have H := H1
       clear H1
       replace H := Option.bind_eq_some_iff.mp H
       obtain ⟨⟨t185, t186, t187, t188⟩, A650, H⟩ := H
       (try dsimp only at H)
       have A65 := Aside0.mk A650
       clear A650
       simp only [Option.some.injEq, Prod.mk.injEq] at H
       obtain ⟨rfl, rfl, rfl, rfl⟩ := H
       iterate 2 (try go_wp2_with (first | (go_at_call 28; (with_reducible refine (bits_LeadingZeros64.calls kj22 x11_22 t176 _ A32.out).mono ?_); rintro e w' ⟨rfl, ⟨nd, rfl⟩⟩; (try first | exact ⟨rfl, _, World.drewN_drewN _ _ _⟩ | exact ⟨rfl, _, Eq.trans (World.drewN_drewN _ _ _) (congrArg (World.drewN _) (Nat.add_assoc _ _ _))⟩); have hnb66 := NB165_166.out; have hnc66 := NB166_165.out; have hnb67 := NB165_167.out; have hnc67 := NB167_165.out; have hnb68 := NB165_171.out; have hnc68 := NB171_165.out; obtain ⟨hcz69_0, hcz69_1, hcz69_2, hcz69_3, hfz69_0, hfz69_1, hfz69_2, hfz69_3⟩ := c4_ BK165; have hnb70 := NB171_166.out; have hnc70 := NB166_171.out; have hnb71 := NB171_167.out; have hnc71 := NB167_171.out; obtain ⟨hcz72_0, hcz72_1, hcz72_2, hfz72_0, hfz72_1, hfz72_2⟩ := c3_ BK171) | (go_at_call 27; (try simp only [bnb_]); (with_reducible refine (num_Grow.calls kj22 a0_1 x11_22 x13_22 true (a2 != a0_1) t185 t186 t187 t188 _ A65.out).mono ?_); rintro e w73 ⟨rfl, hb⟩; replace BK165 := kq_ BK165 hb; replace BK166 := kq_ BK166 hb; replace BK167 := kq_ BK167 hb; replace BK171 := kq_ BK171 hb; replace HB := bq_ HB hb; (try clear hb); (try clear hb2); (try clear hk); (try clear hi); have hnb74 := NB167_166.out; have hnc74 := NB166_167.out; obtain ⟨hcz75_0, hcz75_1, hcz75_2, hcz75_3, hfz75_0, hfz75_1, hfz75_2, hfz75_3⟩ := c4_ BK167)); try (go_quiet (first | (go_at_call 28; (with_reducible refine (bits_LeadingZeros64.calls kj22 x11_22 t176 _ A32.out).mono ?_); rintro e w' ⟨rfl, ⟨nd, rfl⟩⟩; (try first | exact ⟨rfl, _, World.drewN_drewN _ _ _⟩ | exact ⟨rfl, _, Eq.trans (World.drewN_drewN _ _ _) (congrArg (World.drewN _) (Nat.add_assoc _ _ _))⟩); have hnb66 := NB165_166.out; have hnc66 := NB166_165.out; have hnb67 := NB165_167.out; have hnc67 := NB167_165.out; have hnb68 := NB165_171.out; have hnc68 := NB171_165.out; obtain ⟨hcz69_0, hcz69_1, hcz69_2, hcz69_3, hfz69_0, hfz69_1, hfz69_2, hfz69_3⟩ := c4_ BK165; have hnb70 := NB171_166.out; have hnc70 := NB166_171.out; have hnb71 := NB171_167.out; have hnc71 := NB167_171.out; obtain ⟨hcz72_0, hcz72_1, hcz72_2, hfz72_0, hfz72_1, hfz72_2⟩ := c3_ BK171))))
       refine bodyPost_ret (results_cell_row rfl _ _ gb167 24 #[.int .i64 t185, .bool t186, .int .u64 t187, .int .i64 t188] (0, 0) _ rfl (by refine kb_ ?_; refine bp_ #[.int .i64 t185, .bool t186, .int .u64 t187, .int .i64 0] 3 ?_; refine bp_ #[.int .i64 t185, .bool t186, .int .u64 0, .int .i64 0] 2 ?_; refine bp_ #[.int .i64 t185, .bool false, .int .u64 0, .int .i64 0] 1 ?_; refine bp_ #[.int .i64 0, .bool false, .int .u64 0, .int .i64 0] 0 ?_; exact BK167.out) Tryd.underlying24 rfl (by kernel_rfl)) rfl ?_
       exact ⟨rf_, bw_ HB.out⟩
      ·replace c64 := Bool.eq_false_iff.mpr c64
       subst c64
       have H1 : ((num_Grow.f kj22 a0_1 x11_22 x13_22 (x9_22 != 0) (a2 != a0_1)).bind fun bt189 => (some (bt189.1, bt189.2.1, bt189.2.2.1, bt189.2.2.2))) = some (r1, r2, r3, r4) := by rw [if_neg (show ¬ (false = true) by decide)] at H; exact H
       clear H
       have H := H1
       clear H1
       replace H := Option.bind_eq_some_iff.mp H
       obtain ⟨⟨t189, t190, t191, t192⟩, A760, H⟩ := H
       (try dsimp only at H)
       have A76 := Aside0.mk A760
       clear A760
       simp only [Option.some.injEq, Prod.mk.injEq] at H
       obtain ⟨rfl, rfl, rfl, rfl⟩ := H
       iterate 2 (try go_wp2_with (first | (go_at_call 28; (with_reducible refine (bits_LeadingZeros64.calls kj22 x11_22 t176 _ A32.out).mono ?_); rintro e w' ⟨rfl, ⟨nd, rfl⟩⟩; (try first | exact ⟨rfl, _, World.drewN_drewN _ _ _⟩ | exact ⟨rfl, _, Eq.trans (World.drewN_drewN _ _ _) (congrArg (World.drewN _) (Nat.add_assoc _ _ _))⟩); have hnb77 := NB165_166.out; have hnc77 := NB166_165.out; have hnb78 := NB165_167.out; have hnc78 := NB167_165.out; have hnb79 := NB165_171.out; have hnc79 := NB171_165.out; obtain ⟨hcz80_0, hcz80_1, hcz80_2, hcz80_3, hfz80_0, hfz80_1, hfz80_2, hfz80_3⟩ := c4_ BK165; have hnb81 := NB171_166.out; have hnc81 := NB166_171.out; have hnb82 := NB171_167.out; have hnc82 := NB167_171.out; obtain ⟨hcz83_0, hcz83_1, hcz83_2, hfz83_0, hfz83_1, hfz83_2⟩ := c3_ BK171) | (go_at_call 27; (try simp only [bnb_]); (with_reducible refine (num_Grow.calls kj22 a0_1 x11_22 x13_22 (x9_22 != 0) (a2 != a0_1) t189 t190 t191 t192 _ A76.out).mono ?_); rintro e w84 ⟨rfl, hb⟩; replace BK165 := kq_ BK165 hb; replace BK166 := kq_ BK166 hb; replace BK167 := kq_ BK167 hb; replace BK171 := kq_ BK171 hb; replace HB := bq_ HB hb; (try clear hb); (try clear hb2); (try clear hk); (try clear hi); have hnb85 := NB167_166.out; have hnc85 := NB166_167.out; obtain ⟨hcz86_0, hcz86_1, hcz86_2, hcz86_3, hfz86_0, hfz86_1, hfz86_2, hfz86_3⟩ := c4_ BK167)); try (go_quiet (first | (go_at_call 28; (with_reducible refine (bits_LeadingZeros64.calls kj22 x11_22 t176 _ A32.out).mono ?_); rintro e w' ⟨rfl, ⟨nd, rfl⟩⟩; (try first | exact ⟨rfl, _, World.drewN_drewN _ _ _⟩ | exact ⟨rfl, _, Eq.trans (World.drewN_drewN _ _ _) (congrArg (World.drewN _) (Nat.add_assoc _ _ _))⟩); have hnb77 := NB165_166.out; have hnc77 := NB166_165.out; have hnb78 := NB165_167.out; have hnc78 := NB167_165.out; have hnb79 := NB165_171.out; have hnc79 := NB171_165.out; obtain ⟨hcz80_0, hcz80_1, hcz80_2, hcz80_3, hfz80_0, hfz80_1, hfz80_2, hfz80_3⟩ := c4_ BK165; have hnb81 := NB171_166.out; have hnc81 := NB166_171.out; have hnb82 := NB171_167.out; have hnc82 := NB167_171.out; obtain ⟨hcz83_0, hcz83_1, hcz83_2, hfz83_0, hfz83_1, hfz83_2⟩ := c3_ BK171))))
       refine bodyPost_ret (results_cell_row rfl _ _ gb167 24 #[.int .i64 t189, .bool t190, .int .u64 t191, .int .i64 t192] (0, 0) _ rfl (by refine kb_ ?_; refine bp_ #[.int .i64 t189, .bool t190, .int .u64 t191, .int .i64 0] 3 ?_; refine bp_ #[.int .i64 t189, .bool t190, .int .u64 0, .int .i64 0] 2 ?_; refine bp_ #[.int .i64 t189, .bool false, .int .u64 0, .int .i64 0] 1 ?_; refine bp_ #[.int .i64 0, .bool false, .int .u64 0, .int .i64 0] 0 ?_; exact BK167.out) Tryd.underlying24 rfl (by kernel_rfl)) rfl ?_
       exact ⟨rf_, bw_ HB.out⟩

end Go.Proofs.YthlhogcnfaiphaaDoor.PA
