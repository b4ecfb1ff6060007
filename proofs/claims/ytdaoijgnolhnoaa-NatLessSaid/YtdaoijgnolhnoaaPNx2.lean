-- Laid by this work's own program; Lean checks it.
import Derived.Test.YtdaoijgnolhnoaaPNx0
import Derived.Test.YtdaoijgnolhnoaaPNx1
namespace Go.Proofs.Ytdaoijgnolhnoaa.PN
open Go.RowKit Go.Proofs.YtdaoijgnolhnoaaW.PrintWords Go.Proofs.YtdaoijgnolhnoaaW.PrintLast Go.Proofs.YtdaoijgnolhnoaaW.PrintMore
attribute [local go_sem] max2_int min2_int max_two min_two max_three min_three max_four min_four   -- for this text's walks alone
set_option linter.unusedVariables false
set_option linter.unusedSimpArgs false

/-! ### nat_cut: function 35 -/
set_option maxHeartbeats 8000000 in
set_option maxRecDepth 100000 in
theorem nat_cut.calls (k : Nat) (P0_ : Nat → Prop) (A0 : Option Addr) (c0 : Nat) (l0 : List Int) (r : List Int) (w : World) (hs0 : Kd.V (Kd.int .u32) 34 w w.heap.size (fun k_ => P0_ k_) (.slice A0 l0.length c0) l0) (h : nat_cut.f k l0 = some r) :
  Calls Try.prog 35 #[.slice A0 l0.length c0] w fun e w' => ∃ v0_ : Value, e = .returned (v0_) ∧ Kd.V (Kd.int .u32) 34 w' w.heap.size (fun k_ => (P0_ k_ ∨ w.heap.size ≤ k_)) v0_ r ∧ Below w.heap.size w w' := by
 have HO0 := Aside0.mk (show Kd.V (Kd.int .u32) 34 w w.heap.size (fun k_ => (P0_ k_ ∨ w.heap.size ≤ k_)) (.slice A0 l0.length c0) l0 from Kd.V_mono hs0 (fun k_ hk => .inl hk))
 have HB := Aside0.mk (Below.refl w.heap.size w)
 have H : (nat_cut.l0 k l0) = some r := h
 clear h
 have H' := Aside0.mk H
 clear H
 go_enter Try.func35, Try.ntmps35
 go_wp2
 go_loopg [0] k (fun kq v0 w' => ∃ (x0_1 : List Int), Aside0 (nat_cut.l0 kq x0_1 = some r) ∧ Aside0 (kq ≤ k) ∧ Aside0 (Kd.V (Kd.int .u32) 34 w' w.heap.size (fun k_ => (P0_ k_ ∨ w.heap.size ≤ k_)) v0 x0_1) ∧ Aside0 (Below w.heap.size w w'))
 case atStart => exact ⟨(l0), H', ⟨Nat.le_refl _⟩, ⟨by (with_reducible repeat (first | apply Kd.V_alloc | apply Kd.V_drewN | apply Kd.V_drew)); exact HO0.out⟩, ⟨by repeat (first | (with_reducible first | exact HB.out | apply below_alloc | apply pw_below_drewN | apply below_drew1) | exact HB.out)⟩⟩
 case round =>
  clear H'
  obtain ⟨x0_1, HA, HK1, HO_0, HB⟩ := hrel
  cases gk with
  | zero => exact absurd HA.out (by simp [nat_cut.l0])
  | succ k1 =>
   have H := HA.out
   clear HA
   simp only [nat_cut.l0] at H
   by_cases c2 : (x0_1.length : Int) > 0
   ·rw [if_pos c2] at H
    have c2b0 : decide (0 < (x0_1.length : Int)) = true := decide_eq_true c2
    have c2b1 : decide (0 < x0_1.length) = true := decide_eq_true (by omega)
    clear c2
    obtain ⟨ji3, hji3⟩ : ∃ j_ : Int, (wrap64 ((x0_1.length : Int) - 1)) = j_ := ⟨_, rfl⟩
    (first | rw [hji3] at H | simp only [hji3] at H)
    have hji3w : (IntKind.i64.wrap ((x0_1.length : Int) - 1)) = ji3 := (i64_w _).trans hji3
    by_cases c4 : 0 ≤ (ji3)
    ·rw [if_pos c4] at H
     have c4b0 : decide (0 ≤ (ji3)) = true := decide_eq_true c4
     clear c4
     by_cases c5 : (ji3) < (x0_1.length : Int)
     ·rw [if_pos c5] at H
      have c5b0 : decide ((ji3) < (x0_1.length : Int)) = true := decide_eq_true c5
      clear c5
      by_cases c6 : (rd x0_1 (ji3)) = 0
      ·rw [if_pos c6] at H
       have c6b0 : ((rd x0_1 (ji3)) == 0) = true := beq_iff_eq.mpr c6
       have c6b1 : ((rd x0_1 (ji3)) != 0) = false := bne_eq_false_iff_eq.mpr c6
       clear c6
       have c7b0 := eq_true (of_decide_eq_true (by first | (with_reducible assumption) | assumption) : 0 ≤ (ji3))
       by_cases c8 : (ji3) ≤ (x0_1.length : Int)
       ·rw [if_pos c8] at H
        have c8b0 := eq_true c8
        have c8b1 : decide ((ji3) ≤ (x0_1.length : Int)) = true := decide_eq_true c8
        clear c8
        obtain ⟨y102, hy102⟩ : ∃ y_ : List Int, y_ = (x0_1.take ((ji3) : Int).toNat) := ⟨_, rfl⟩
        replace H : (nat_cut.l0 k1 y102) = some r := by first | (rw [hy102]; with_reducible exact H) | (have H2_ := (Option.bind_some _ _).symm.trans H; rw [hy102]; with_reducible exact H2_) | (have H2_ := (Option.bind_some _ _).symm.trans H; with_reducible exact H2_) | with_reducible exact H | (rw [hy102]; exact H) | exact H
        have Ny102 := Aside0.mk hy102
        clear hy102
        have H' := Aside0.mk H
        clear H
        obtain ⟨Ao9, co9, eo9⟩ := Kd.V_slice HO_0.out
        subst eo9
        have p101 : 0 ≤ ((ji3) : Int) := of_decide_eq_true (by first | (with_reducible assumption) | assumption)
        have q101 : (ji3) < (x0_1.length : Int) := of_decide_eq_true (by first | (with_reducible assumption) | assumption)
        obtain ⟨ad101, e101, hx101_0⟩ := Kd.at_int (Kd.V_reads' HO_0.out).2.2 (ji3) p101 q101
        cases e101
        replace p101 := eq_true p101
        replace q101 := eq_true q101
        have q10 : ((ji3) : Int) ≤ ((x0_1.length : Int) : Int) := of_decide_eq_true (by first | (with_reducible assumption) | assumption)
        obtain ⟨i010, hi010, _, hsz10, _⟩ := info_parts info34
        have hroom10 : x0_1.length ≤ co9 := (Kd.V_reads' HO_0.out).2.1
        have hC10 : Kd.F (Kd.int .u32) _ _ (some ad101) x0_1.length x0_1 := (Kd.V_at (base := w.heap.size) HO_0.out).2.2
        have hcut10 := cut_to (P := Try.prog) 22 34 .i64 Try.underlying22 hi010 (some ad101) x0_1.length co9 (ji3) (of_decide_eq_true (by first | (with_reducible assumption) | assumption)) q10 hroom10
        have hr10 := Kd.F_take (m := ((ji3) : Int).toNat) hC10 (by omega)
        have hy10 : y102.length = ((ji3) : Int).toNat := (by rw [Ny102.out, List.length_take]; omega)
        rw [← Ny102.out] at hr10
        rw [← hy10] at hcut10
        have HO106 := Aside0.mk (show Kd.V (Kd.int .u32) 34 _ w.heap.size _ (.slice (some ad101) y102.length co9) y102 from Kd.V_mk (by omega) hr10)
        have HC106 := Aside0.mk (show y102.length ≤ co9 from by omega)
        clear hr10 hC10 hroom10 hi010 hsz10
        have KY10 := Aside0.mk hy10
        clear hy10
        replace q10 := eq_true q10
        go_wp2
        go_roundg k1
        case measure => have := HK1.out; omega
        case rel => exact ⟨(y102), H', ⟨by have := HK1.out; omega⟩, ⟨by (with_reducible repeat (first | apply Kd.V_alloc | apply Kd.V_drewN | apply Kd.V_drew)); exact HO106.out⟩, ⟨by repeat (first | (with_reducible first | exact HB.out | apply below_alloc | apply pw_below_drewN | apply below_drew1) | exact HB.out)⟩⟩
       ·rw [if_neg c8] at H
        exact absurd H (by simp)
      ·rw [if_neg c6] at H
       have c6b0 : ((rd x0_1 (ji3)) == 0) = false := beq_eq_false_iff_ne.mpr c6
       have c6b1 : ((rd x0_1 (ji3)) != 0) = true := bne_iff_ne.mpr c6
       obtain rfl := Option.some.inj H
       obtain ⟨Ao11, co11, eo11⟩ := Kd.V_slice HO_0.out
       subst eo11
       have p101 : 0 ≤ ((ji3) : Int) := of_decide_eq_true (by first | (with_reducible assumption) | assumption)
       have q101 : (ji3) < (x0_1.length : Int) := of_decide_eq_true (by first | (with_reducible assumption) | assumption)
       obtain ⟨ad101, e101, hx101_0⟩ := Kd.at_int (Kd.V_reads' HO_0.out).2.2 (ji3) p101 q101
       cases e101
       replace p101 := eq_true p101
       replace q101 := eq_true q101
       go_wp2
       go_ret
       exact ⟨_, by first | rfl | (simp [errW_none, errW_some] <;> rfl) | (simp only [← hji3]; first | rfl | (simp [errW_none, errW_some] <;> rfl)) | (simp [*, errW_none, errW_some] <;> rfl), by (with_reducible repeat (first | apply Kd.V_alloc | apply Kd.V_drewN | apply Kd.V_drew)); exact HO_0.out, by repeat (first | (with_reducible first | exact HB.out | apply below_alloc | apply pw_below_drewN | apply below_drew1) | exact HB.out)⟩
     ·rw [if_neg c5] at H
      exact absurd H (by simp)
    ·rw [if_neg c4] at H
     exact absurd H (by simp)
   ·rw [if_neg c2] at H
    have c2b0 : decide (0 < (x0_1.length : Int)) = false := decide_eq_false c2
    have c2b1 : decide (0 < x0_1.length) = false := decide_eq_false (by omega)
    clear c2
    obtain rfl := Option.some.inj H
    obtain ⟨Ao12, co12, eo12⟩ := Kd.V_slice HO_0.out
    subst eo12
    go_wp2
    go_ret
    exact ⟨_, by first | rfl | (simp [errW_none, errW_some] <;> rfl) | (simp [*, errW_none, errW_some] <;> rfl), by (with_reducible repeat (first | apply Kd.V_alloc | apply Kd.V_drewN | apply Kd.V_drew)); exact HO_0.out, by repeat (first | (with_reducible first | exact HB.out | apply below_alloc | apply pw_below_drewN | apply below_drew1) | exact HB.out)⟩

/-! ### nat_cut_own: function 35 -/
set_option maxHeartbeats 8000000 in
set_option maxRecDepth 100000 in
theorem nat_cut_own.calls (k : Nat) (P0_ : Nat → Prop) (u9000_ : Value) (l0 : List Int) (r : List Int) (w0 w : World) (hB : Below w0.heap.size w0 w) (ho0 : Kd.R (Kd.int .u32) 34 w w0.heap.size P0_ u9000_ l0) (h : nat_cut_own.f k l0 = some r) :
  Calls Try.prog 35 #[u9000_] w fun e w' => ∃ v0_ : Value, e = .returned (v0_) ∧ Kd.R (Kd.int .u32) 34 w' w0.heap.size (fun k_ => (P0_ k_ ∨ w.heap.size ≤ k_)) v0_ r ∧ Below w0.heap.size w0 w' ∧ Kept w w' (fun k_ => P0_ k_) := by
 have HO0 := Aside0.mk (show Kd.R (Kd.int .u32) 34 w w0.heap.size (fun k_ => (P0_ k_ ∨ w.heap.size ≤ k_)) u9000_ l0 from Kd.R_mono ho0 (fun k_ hk => (.inl hk)))
 have HK := Aside0.mk (Kept.refl w (fun k_ => P0_ k_))
 have HW0 := Aside0.mk hB.size
 have HB := Aside0.mk hB
 clear hB
 have H : (nat_cut_own.l0 k l0) = some r := h
 clear h
 have H' := Aside0.mk H
 clear H
 go_enter Try.func35, Try.ntmps35
 go_wp2
 go_loopg [0] k (fun kq v0 w' => ∃ (x0_1 : List Int), Aside0 (nat_cut_own.l0 kq x0_1 = some r) ∧ Aside0 (kq ≤ k) ∧ Aside0 (Kd.R (Kd.int .u32) 34 w' w0.heap.size (fun k_ => (P0_ k_ ∨ w.heap.size ≤ k_)) v0 x0_1) ∧ Aside0 (Kept w w' (fun k_ => P0_ k_)) ∧ Aside0 (Below w0.heap.size w0 w'))
 case atStart => exact ⟨(l0), H', ⟨Nat.le_refl _⟩, ⟨by (with_reducible repeat (first | apply Kd.R_alloc | apply Kd.R_drewN | apply Kd.R_drew)); exact HO0.out⟩, ⟨by repeat (first | (with_reducible first | exact HK.out | apply Kept.alloc | apply Kept.drewN | apply Kept.drew) | exact HK.out)⟩, ⟨by repeat (first | (with_reducible first | exact HB.out | apply below_alloc | apply pw_below_drewN | apply below_drew1) | exact HB.out)⟩⟩
 case round =>
  clear H'
  try clear c1
  obtain ⟨x0_1, HA, HK1, HO_0, HK, HB⟩ := hrel
  cases gk with
  | zero => exact absurd HA.out (by simp [nat_cut_own.l0])
  | succ k1 =>
   have H := HA.out
   clear HA
   simp only [nat_cut_own.l0] at H
   by_cases c2 : (x0_1.length : Int) > 0
   ·rw [if_pos c2] at H
    have c2b0 : decide (0 < (x0_1.length : Int)) = true := decide_eq_true c2
    have c2b1 : decide (0 < x0_1.length) = true := decide_eq_true (by omega)
    clear c2
    obtain ⟨ji3, hji3⟩ : ∃ j_ : Int, (wrap64 ((x0_1.length : Int) - 1)) = j_ := ⟨_, rfl⟩
    (first | rw [hji3] at H | simp only [hji3] at H)
    have hji3w : (IntKind.i64.wrap ((x0_1.length : Int) - 1)) = ji3 := (i64_w _).trans hji3
    by_cases c4 : 0 ≤ (ji3)
    ·rw [if_pos c4] at H
     have c4b0 : decide (0 ≤ (ji3)) = true := decide_eq_true c4
     clear c4
     by_cases c5 : (ji3) < (x0_1.length : Int)
     ·rw [if_pos c5] at H
      have c5b0 : decide ((ji3) < (x0_1.length : Int)) = true := decide_eq_true c5
      clear c5
      by_cases c6 : (rd x0_1 (ji3)) = 0
      ·rw [if_pos c6] at H
       have c6b0 : ((rd x0_1 (ji3)) == 0) = true := beq_iff_eq.mpr c6
       have c6b1 : ((rd x0_1 (ji3)) != 0) = false := bne_eq_false_iff_eq.mpr c6
       clear c6
       by_cases c7 : (ji3) ≤ (x0_1.length : Int)
       ·rw [if_pos c7] at H
        have c7b0 := eq_true c7
        have c7b1 : decide ((ji3) ≤ (x0_1.length : Int)) = true := decide_eq_true c7
        clear c7
        obtain ⟨y108, hy108⟩ : ∃ y_ : List Int, y_ = (x0_1.take ((ji3) : Int).toNat) := ⟨_, rfl⟩
        replace H : (nat_cut_own.l0 k1 y108) = some r := by first | (rw [hy108]; with_reducible exact H) | (have H2_ := (Option.bind_some _ _).symm.trans H; rw [hy108]; with_reducible exact H2_) | (have H2_ := (Option.bind_some _ _).symm.trans H; with_reducible exact H2_) | with_reducible exact H | (rw [hy108]; exact H) | exact H
        have Ny108 := Aside0.mk hy108
        clear hy108
        have H' := Aside0.mk H
        clear H
        obtain ⟨Ao8, co8, eo8⟩ := Kd.R_slice HO_0.out
        subst eo8
        have p107 : 0 ≤ ((ji3) : Int) := of_decide_eq_true (by first | (with_reducible assumption) | assumption)
        have q107 : (ji3) < (x0_1.length : Int) := of_decide_eq_true (by first | (with_reducible assumption) | assumption)
        obtain ⟨ad107, e107, hx107_0⟩ := Kd.at_int (Kd.R_reads' HO_0.out).2.2 (ji3) p107 q107
        cases e107
        replace p107 := eq_true p107
        replace q107 := eq_true q107
        have q9 : ((ji3) : Int) ≤ ((x0_1.length : Int) : Int) := of_decide_eq_true (by first | (with_reducible assumption) | assumption)
        obtain ⟨i09, hi09, _, hsz9, _⟩ := info_parts info34
        have hcut9 := cut_to (P := Try.prog) 22 34 .i64 Try.underlying22 hi09 (some ad107) x0_1.length co8 (ji3) (of_decide_eq_true (by first | (with_reducible assumption) | assumption)) q9 (Kd.R_reads' HO_0.out).2.1
        have hr9 := Kd.R_take (m := ((ji3) : Int).toNat) HO_0.out (by omega)
        have hy9 : y108.length = ((ji3) : Int).toNat := (by rw [Ny108.out, List.length_take]; omega)
        rw [← Ny108.out] at hr9
        rw [← hy9] at hr9 hcut9
        clear hy9 hi09 hsz9 HO_0
        have HO110 := Aside0.mk hr9
        clear hr9
        replace q9 := eq_true q9
        go_wp2
        go_roundg k1
        case measure => have := HK1.out; omega
        case rel => exact ⟨(y108), H', ⟨by have := HK1.out; omega⟩, ⟨by (with_reducible repeat (first | apply Kd.R_alloc | apply Kd.R_drewN | apply Kd.R_drew)); exact HO110.out⟩, ⟨by repeat (first | (with_reducible first | exact HK.out | apply Kept.alloc | apply Kept.drewN | apply Kept.drew) | exact HK.out)⟩, ⟨by repeat (first | (with_reducible first | exact HB.out | apply below_alloc | apply pw_below_drewN | apply below_drew1) | exact HB.out)⟩⟩
       ·rw [if_neg c7] at H
        exact absurd H (by simp)
      ·rw [if_neg c6] at H
       have c6b0 : ((rd x0_1 (ji3)) == 0) = false := beq_eq_false_iff_ne.mpr c6
       have c6b1 : ((rd x0_1 (ji3)) != 0) = true := bne_iff_ne.mpr c6
       obtain rfl := Option.some.inj H
       obtain ⟨Ao10, co10, eo10⟩ := Kd.R_slice HO_0.out
       subst eo10
       have p107 : 0 ≤ ((ji3) : Int) := of_decide_eq_true (by first | (with_reducible assumption) | assumption)
       have q107 : (ji3) < (x0_1.length : Int) := of_decide_eq_true (by first | (with_reducible assumption) | assumption)
       obtain ⟨ad107, e107, hx107_0⟩ := Kd.at_int (Kd.R_reads' HO_0.out).2.2 (ji3) p107 q107
       cases e107
       replace p107 := eq_true p107
       replace q107 := eq_true q107
       go_wp2
       go_ret
       exact ⟨_, by first | rfl | (simp [errW_none, errW_some] <;> rfl) | (simp only [← hji3]; first | rfl | (simp [errW_none, errW_some] <;> rfl)) | (simp [*, errW_none, errW_some] <;> rfl), by (with_reducible repeat (first | apply Kd.R_alloc | apply Kd.R_drewN | apply Kd.R_drew)); exact HO_0.out, by repeat (first | (with_reducible first | exact HB.out | apply below_alloc | apply pw_below_drewN | apply below_drew1) | exact HB.out), by repeat (first | (with_reducible first | exact HK.out | apply Kept.alloc | apply Kept.drewN | apply Kept.drew) | exact HK.out)⟩
     ·rw [if_neg c5] at H
      exact absurd H (by simp)
    ·rw [if_neg c4] at H
     exact absurd H (by simp)
   ·rw [if_neg c2] at H
    have c2b0 : decide (0 < (x0_1.length : Int)) = false := decide_eq_false c2
    have c2b1 : decide (0 < x0_1.length) = false := decide_eq_false (by omega)
    clear c2
    obtain rfl := Option.some.inj H
    obtain ⟨Ao11, co11, eo11⟩ := Kd.R_slice HO_0.out
    subst eo11
    go_wp2
    go_ret
    exact ⟨_, by first | rfl | (simp [errW_none, errW_some] <;> rfl) | (simp [*, errW_none, errW_some] <;> rfl), by (with_reducible repeat (first | apply Kd.R_alloc | apply Kd.R_drewN | apply Kd.R_drew)); exact HO_0.out, by repeat (first | (with_reducible first | exact HB.out | apply below_alloc | apply pw_below_drewN | apply below_drew1) | exact HB.out), by repeat (first | (with_reducible first | exact HK.out | apply Kept.alloc | apply Kept.drewN | apply Kept.drew) | exact HK.out)⟩

/-! ### slices_Clone_uint32_uint32: function 36 (a text of our own) -/
set_option maxHeartbeats 8000000 in
set_option maxRecDepth 100000 in
theorem slices_Clone_uint32_uint32.calls (A0 : Option Addr) (c0 : Nat) (l0 : List Int) (r : List Int) (w : World) (hr0 : Kd.C (Kd.int .u32) w A0 l0.length l0) (hc0 : l0.length ≤ c0) (h : slices_Clone_uint32_uint32.f l0 = some r) :
    Calls Try.prog 36 #[.slice A0 l0.length c0] w fun e w' => ∃ v0_ : Value, e = .returned (v0_) ∧ Kd.R (Kd.int .u32) 34 w' w.heap.size (fun _ => True) v0_ r ∧ Below w.heap.size w w' := by
  unfold slices_Clone_uint32_uint32.f at h
  have hlen : l0.length < 35184372088832 := by
    by_cases hq : l0.length < 35184372088832
    · exact hq
    · rw [if_neg hq] at h; exact absurd h (by simp)
  rw [if_pos hlen] at h
  obtain rfl := Option.some.inj h
  clear h
  cases A0 with
  | none =>
    have hz : l0 = [] := by
      cases l0 with
      | nil => rfl
      | cons x xs => obtain ⟨ad, e, _⟩ := hr0.2.2 (by simp); exact absurd e (by simp)
    subst hz
    clear hlen hc0 hr0
    have hnil := fun (w' : World) (n c : Nat) => Lib.run_eql_slice_nil (P := Try.prog) w' 22 34 none n c 0 0 Try.underlying22
    go_enter Try.func36, Try.ntmps36
    go_wp2
    go_ret
    exact ⟨_, rfl, Kd.R_nil _ _ _ _ _, Below.refl _ _⟩
  | some ad =>
    have hnil := fun (w' : World) (n c : Nat) => Lib.run_eql_slice_nil (P := Try.prog) w' 22 34 (some ad) n c 0 0 Try.underlying22
    have HR0 := Aside0.mk hr0
    have HC0 := Aside0.mk hc0
    clear hr0 hc0
    have HB := Aside0.mk (Below.refl w.heap.size w)
    have LMc2 := Aside0.mk hlen
    clear hlen
    go_enter Try.func36, Try.ntmps36
    go_wp2_with (first | ((with_reducible refine gate_dst (N := 5) rfl ?_); refine Kd.R_lit (Kd.int .u32) _ 34 ?hg (N := 5) ?hd (xs := ([] : List Int)) (inner := []) (ok := fun _ => True) (okp := fun _ => True) ?hr ?hp (fun _ hk => hk) trivial (Below.refl _ _) (Nat.le_refl _) (by simp) ?_; (case hd => rfl); (case hg => rfl); (case hr => first | (go_simp; done) | (go_simp; rfl)); (case hp => exact (Reps.none _ _)); intro v108 w3 ho4 hb hg_ hnew_; clear hg_ hnew_; have n0_ := Aside0.mk (Kd.R_lower ho4 (below_size (by repeat (first | (with_reducible first | exact HB.out | apply below_alloc | apply pw_below_drewN | apply below_drew1) | exact HB.out)))); have n1_ := Aside0.mk (below_step (by repeat (first | (with_reducible first | exact HB.out | apply below_alloc | apply pw_below_drewN | apply below_drew1) | exact HB.out)) hb); clear HB; have HO109 := n0_; have HB := n1_; clear n0_ n1_; clear hb ho4) | ((with_reducible refine gate_builtin (b := .append) (xs := #[.tmp 5, .tmp 6]) rfl ?_); at_builtin; refine Kd.R_append_rows (Kd.int .u32) (w0 := w) w.heap.size rfl (.tmp 5) (.tmp 6) 22 34 (.int .u32 0) 4 rfl Try.underlying22 info34 rfl (by decide) (by omega) v108 ([] : List Int) l0 _ _ _ (fun _ => True) (fun _ => False) rfl rfl ?aO ?aR (fun _ _ h => h) (fun _ h => h.elim) ?aF ?aB ?aS ?aL ?_; (case aR => repeat (first | exact (Kd.C_below HR0.out HB.out) | (with_reducible refine Kd.C_alloc ?_ _) | (with_reducible refine Kd.C_drewN ?_ _) | (with_reducible refine Kd.C_drew ?_))); (case aB => exact (by repeat (first | (with_reducible first | exact HB.out | apply below_alloc | apply pw_below_drewN | apply below_drew1) | exact HB.out))); (case aF => exact (fun _ _ => trivial)); (case aO => exact (by (with_reducible repeat (first | apply Kd.R_alloc | apply Kd.R_drewN | apply Kd.R_drew)); exact HO109.out)); (case aS => exact (below_size (by repeat (first | (with_reducible first | exact HB.out | apply below_alloc | apply pw_below_drewN | apply below_drew1) | exact HB.out)))); (case aL => have := LMc2.out; simp only [List.length_nil]; omega); intro v111 w5 ho hb hg hat; have n0_ := Aside0.mk (hb); have n1_ := Aside0.mk (ho); clear HB; clear HO109; have HB := n0_; have HO112 := n1_; clear n0_ n1_; clear ho hb hg hat))
    go_ret
    exact ⟨_, rfl, by (with_reducible repeat (first | apply Kd.R_alloc | apply Kd.R_drewN | apply Kd.R_drew)); exact HO112.out, by repeat (first | (with_reducible first | exact HB.out | apply below_alloc | apply pw_below_drewN | apply below_drew1) | exact HB.out)⟩

/-! ### nat_Shl: function 17 -/
set_option maxHeartbeats 8000000 in
set_option maxRecDepth 100000 in
theorem nat_Shl.calls (k : Nat) (A0 : Option Addr) (c0 : Nat) (l0 : List Int) (a1 : Int) (r : List Int) (w : World) (hr0 : Kd.C (Kd.int .u32) w A0 l0.length l0) (hc0 : l0.length ≤ c0) (h : nat_Shl.f k l0 a1 = some r) :
  Calls Try.prog 17 #[.slice A0 l0.length c0, .int .i64 a1] w fun e w' => ∃ v0_ : Value, e = .returned (v0_) ∧ Kd.R (Kd.int .u32) 34 w' w.heap.size (fun _ => True) v0_ r ∧ Below w.heap.size w w' := by
 have HR0 := Aside0.mk hr0
 have HC0 := Aside0.mk hc0
 clear hr0 hc0
 have HB := Aside0.mk (Below.refl w.heap.size w)
 have H : ((nat_cut.f k l0).bind fun t111 => (if a1 < 1 then ((slices_Clone_uint32_uint32.f t111).bind fun t114 => (some t114)) else (if a1 > 16777216 then (some ([] : List Int)) else (if (t111.length : Int) = 0 then (some ([] : List Int)) else (if 0 ≤ (wrap64 ((wrap64 ((t111.length : Int) + (wrap64 (Int.tdiv a1 32)))) + 1)) then (if (wrap64 ((wrap64 ((t111.length : Int) + (wrap64 (Int.tdiv a1 32)))) + 1) : Int).toNat ≤ 70368744177664 then (nat_Shl.l0 k (wrap64 (Int.tdiv a1 32)) (Int.tmod a1 32) (List.replicate (wrap64 ((wrap64 ((t111.length : Int) + (wrap64 (Int.tdiv a1 32)))) + 1) : Int).toNat 0) t111 (t111.length : Int) 0) else (none)) else (none)))))) = some r := h
 clear h
 replace H := Option.bind_eq_some_iff.mp H
 obtain ⟨t111, A30, H⟩ := H
 (try dsimp only at H)
 have A3 := Aside0.mk A30
 clear A30
 by_cases c4 : a1 < 1
 ·rw [if_pos c4] at H
  have c4b0 : decide (a1 < 1) = true := decide_eq_true c4
  clear c4
  replace H := Option.bind_eq_some_iff.mp H
  obtain ⟨t114, A50, H⟩ := H
  (try dsimp only at H)
  have A5 := Aside0.mk A50
  clear A50
  obtain rfl := Option.some.inj H
  go_enter Try.func17, Try.ntmps17
  go_wp2_with (first | ((with_reducible refine gate_callee (f := 35) rfl ?_); refine goesL_ (some 12) rfl rfl Try.func35 (by kernel_rfl) rfl #[.slice A0 l0.length c0] rfl (by (try simp only [List.map_toArray, List.map_cons, List.map_nil]); first | done | rfl | (simp only [List.length_drop, List.length_take]; rfl)) ?_; (with_reducible refine (nat_cut.calls k (fun k_ => k_ < w.heap.size) _ _ l0 t111 _ ?side1 A3.out).mono ?_); (case side1 => exact Kd.V_mk HC0.out (Kd.F_below (Kd.C_F (Kd.heap_int .u32) HR0.out) (by repeat (first | (with_reducible first | exact HB.out | apply below_alloc | apply pw_below_drewN | apply below_drew1) | exact HB.out)))); rintro e w6 ⟨v112, rfl, ho0, hb⟩; refine ⟨_, rfl, ?_⟩; have n0_ := Aside0.mk (Kd.V_lower (Kd.V_mono (ok' := fun k_ => True) ho0 (fun k_ hk_ => trivial)) (below_size (by repeat (first | (with_reducible first | exact HB.out | apply below_alloc | apply pw_below_drewN | apply below_drew1) | exact HB.out)))); have n1_ := Aside0.mk (below_step (by repeat (first | (with_reducible first | exact HB.out | apply below_alloc | apply pw_below_drewN | apply below_drew1) | exact HB.out)) hb); clear HB; have HO113 := n0_; have HB := n1_; clear n0_ n1_; (try clear hb); (try clear hb2); (try clear hk); (try clear hi); (try clear ho0); obtain ⟨Ao7, co7, eo7⟩ := Kd.V_slice HO113.out; subst eo7) | ((with_reducible refine gate_callee (f := 36) rfl ?_); refine goesL_ (some 17) rfl rfl Try.func36 (by kernel_rfl) rfl #[.slice Ao7 t111.length co7] rfl (by (try simp only [List.map_toArray, List.map_cons, List.map_nil]); first | done | rfl | (simp only [List.length_drop, List.length_take]; rfl)) ?_; (with_reducible refine (slices_Clone_uint32_uint32.calls _ _ t111 t114 _ ?side1 ?side2 A5.out).mono ?_); (case side1 => repeat (first | exact (Kd.V_reads' HO113.out).2.2 | (with_reducible refine Kd.C_alloc ?_ _) | (with_reducible refine Kd.C_drewN ?_ _) | (with_reducible refine Kd.C_drew ?_))); (case side2 => exact (Kd.V_reads' HO113.out).2.1); rintro e w8 ⟨v115, rfl, ho0, hb⟩; refine ⟨_, rfl, ?_⟩; have n0_ := Aside0.mk (Kd.V_elder' (by (with_reducible repeat (first | apply Kd.V_alloc | apply Kd.V_drewN | apply Kd.V_drew)); exact HO113.out) (Kd.R_base ho0) hb); have n1_ := Aside0.mk (Kd.R_lower ho0 (below_size (by repeat (first | (with_reducible first | exact HB.out | apply below_alloc | apply pw_below_drewN | apply below_drew1) | exact HB.out)))); have n2_ := Aside0.mk (below_step (by repeat (first | (with_reducible first | exact HB.out | apply below_alloc | apply pw_below_drewN | apply below_drew1) | exact HB.out)) hb); clear HO113; clear HB; have HO113 := n0_; have HO116 := n1_; have HB := n2_; clear n0_ n1_ n2_; (try clear hb); (try clear hb2); (try clear hk); (try clear hi); (try clear ho0)))
  go_ret
  exact ⟨_, by first | rfl | (simp [errW_none, errW_some] <;> rfl) | (simp [*, errW_none, errW_some] <;> rfl), by (with_reducible repeat (first | apply Kd.R_alloc | apply Kd.R_drewN | apply Kd.R_drew)); exact HO116.out, by repeat (first | (with_reducible first | exact HB.out | apply below_alloc | apply pw_below_drewN | apply below_drew1) | exact HB.out)⟩
 ·rw [if_neg c4] at H
  have c4b0 : decide (a1 < 1) = false := decide_eq_false c4
  clear c4
  by_cases c9 : a1 > 16777216
  ·rw [if_pos c9] at H
   have c9b0 : decide (16777216 < a1) = true := decide_eq_true c9
   clear c9
   obtain rfl := Option.some.inj H
   go_enter Try.func17, Try.ntmps17
   go_wp2_with (first | ((with_reducible refine gate_callee (f := 35) rfl ?_); refine goesL_ (some 12) rfl rfl Try.func35 (by kernel_rfl) rfl #[.slice A0 l0.length c0] rfl (by (try simp only [List.map_toArray, List.map_cons, List.map_nil]); first | done | rfl | (simp only [List.length_drop, List.length_take]; rfl)) ?_; (with_reducible refine (nat_cut.calls k (fun k_ => k_ < w.heap.size) _ _ l0 t111 _ ?side1 A3.out).mono ?_); (case side1 => exact Kd.V_mk HC0.out (Kd.F_below (Kd.C_F (Kd.heap_int .u32) HR0.out) (by repeat (first | (with_reducible first | exact HB.out | apply below_alloc | apply pw_below_drewN | apply below_drew1) | exact HB.out)))); rintro e w10 ⟨v112, rfl, ho0, hb⟩; refine ⟨_, rfl, ?_⟩; have n0_ := Aside0.mk (Kd.V_lower (Kd.V_mono (ok' := fun k_ => True) ho0 (fun k_ hk_ => trivial)) (below_size (by repeat (first | (with_reducible first | exact HB.out | apply below_alloc | apply pw_below_drewN | apply below_drew1) | exact HB.out)))); have n1_ := Aside0.mk (below_step (by repeat (first | (with_reducible first | exact HB.out | apply below_alloc | apply pw_below_drewN | apply below_drew1) | exact HB.out)) hb); clear HB; have HO113 := n0_; have HB := n1_; clear n0_ n1_; (try clear hb); (try clear hb2); (try clear hk); (try clear hi); (try clear ho0)))
   go_ret
   exact ⟨_, by first | rfl | (simp [errW_none, errW_some] <;> rfl) | (simp [*, errW_none, errW_some] <;> rfl), by first | exact Kd.R_nil _ _ _ _ _ | exact Kd.N_nil _ _ _ _ _ | exact Kd.V_nil _ _ _ _ _ | exact Kd.Q_nil _ _ _ _ _ | exact Kd.S_nil _ _ _ _ _, by repeat (first | (with_reducible first | exact HB.out | apply below_alloc | apply pw_below_drewN | apply below_drew1) | exact HB.out)⟩
  ·rw [if_neg c9] at H
   have c9b0 : decide (16777216 < a1) = false := decide_eq_false c9
   clear c9
   by_cases c11 : (t111.length : Int) = 0
   ·rw [if_pos c11] at H
    have c11b0 : ((t111.length : Int) == 0) = true := beq_iff_eq.mpr c11
    have c11b1 : ((t111.length : Int) != 0) = false := bne_eq_false_iff_eq.mpr c11
    clear c11
    obtain rfl := Option.some.inj H
    go_enter Try.func17, Try.ntmps17
    go_wp2_with (first | ((with_reducible refine gate_callee (f := 35) rfl ?_); refine goesL_ (some 12) rfl rfl Try.func35 (by kernel_rfl) rfl #[.slice A0 l0.length c0] rfl (by (try simp only [List.map_toArray, List.map_cons, List.map_nil]); first | done | rfl | (simp only [List.length_drop, List.length_take]; rfl)) ?_; (with_reducible refine (nat_cut.calls k (fun k_ => k_ < w.heap.size) _ _ l0 t111 _ ?side1 A3.out).mono ?_); (case side1 => exact Kd.V_mk HC0.out (Kd.F_below (Kd.C_F (Kd.heap_int .u32) HR0.out) (by repeat (first | (with_reducible first | exact HB.out | apply below_alloc | apply pw_below_drewN | apply below_drew1) | exact HB.out)))); rintro e w12 ⟨v112, rfl, ho0, hb⟩; refine ⟨_, rfl, ?_⟩; have n0_ := Aside0.mk (Kd.V_lower (Kd.V_mono (ok' := fun k_ => True) ho0 (fun k_ hk_ => trivial)) (below_size (by repeat (first | (with_reducible first | exact HB.out | apply below_alloc | apply pw_below_drewN | apply below_drew1) | exact HB.out)))); have n1_ := Aside0.mk (below_step (by repeat (first | (with_reducible first | exact HB.out | apply below_alloc | apply pw_below_drewN | apply below_drew1) | exact HB.out)) hb); clear HB; have HO113 := n0_; have HB := n1_; clear n0_ n1_; (try clear hb); (try clear hb2); (try clear hk); (try clear hi); (try clear ho0); obtain ⟨Ao13, co13, eo13⟩ := Kd.V_slice HO113.out; subst eo13))
    go_ret
    exact ⟨_, by first | rfl | (simp [errW_none, errW_some] <;> rfl) | (simp [*, errW_none, errW_some] <;> rfl), by first | exact Kd.R_nil _ _ _ _ _ | exact Kd.N_nil _ _ _ _ _ | exact Kd.V_nil _ _ _ _ _ | exact Kd.Q_nil _ _ _ _ _ | exact Kd.S_nil _ _ _ _ _, by repeat (first | (with_reducible first | exact HB.out | apply below_alloc | apply pw_below_drewN | apply below_drew1) | exact HB.out)⟩
   ·rw [if_neg c11] at H
    have c11b0 : ((t111.length : Int) == 0) = false := beq_eq_false_iff_ne.mpr c11
    have c11b1 : ((t111.length : Int) != 0) = true := bne_iff_ne.mpr c11
    have c11b2 : ¬ (t111 = []) := fun h_ => c11 (by rw [h_]; rfl)
    obtain ⟨ji14, hji14⟩ : ∃ j_ : Int, (wrap64 ((wrap64 ((t111.length : Int) + (wrap64 (Int.tdiv a1 32)))) + 1)) = j_ := ⟨_, rfl⟩
    (first | rw [hji14] at H | simp only [hji14] at H)
    (try rw [hji14] at A3)
    have hji14w : (IntKind.i64.wrap ((wrap64 ((t111.length : Int) + (wrap64 (Int.tdiv a1 32)))) + 1)) = ji14 := (i64_w _).trans hji14
    by_cases c15 : 0 ≤ (ji14)
    ·rw [if_pos c15] at H
     have c15b0 := eq_true c15
     have c15b1 : decide (0 ≤ (ji14)) = true := decide_eq_true c15
     clear c15
     by_cases c16 : (ji14 : Int).toNat ≤ 70368744177664
     ·rw [if_pos c16] at H
      have c16b0 := eq_true c16
      have c16b1 : decide ((ji14 : Int).toNat ≤ 70368744177664) = true := decide_eq_true c16
      clear c16
      obtain ⟨y117, hy117⟩ : ∃ y_ : List Int, y_ = (List.replicate (ji14 : Int).toNat 0) := ⟨_, rfl⟩
      replace H : (nat_Shl.l0 k (wrap64 (Int.tdiv a1 32)) (Int.tmod a1 32) y117 t111 (t111.length : Int) 0) = some r := by first | (rw [hy117]; with_reducible exact H) | (have H2_ := (Option.bind_some _ _).symm.trans H; rw [hy117]; with_reducible exact H2_) | (have H2_ := (Option.bind_some _ _).symm.trans H; with_reducible exact H2_) | with_reducible exact H | (rw [hy117]; exact H) | exact H
      have Ny117 := Aside0.mk hy117
      clear hy117
      have H' := Aside0.mk H
      clear H
      go_enter Try.func17, Try.ntmps17
      go_wp2_with (first | ((with_reducible refine gate_callee (f := 35) rfl ?_); refine goesL_ (some 12) rfl rfl Try.func35 (by kernel_rfl) rfl #[.slice A0 l0.length c0] rfl (by (try simp only [List.map_toArray, List.map_cons, List.map_nil]); first | done | rfl | (simp only [List.length_drop, List.length_take]; rfl)) ?_; (with_reducible refine (nat_cut.calls k (fun k_ => k_ < w.heap.size) _ _ l0 t111 _ ?side1 A3.out).mono ?_); (case side1 => exact Kd.V_mk HC0.out (Kd.F_below (Kd.C_F (Kd.heap_int .u32) HR0.out) (by repeat (first | (with_reducible first | exact HB.out | apply below_alloc | apply pw_below_drewN | apply below_drew1) | exact HB.out)))); rintro e w17 ⟨v112, rfl, ho0, hb⟩; refine ⟨_, rfl, ?_⟩; have n0_ := Aside0.mk (Kd.V_lower (Kd.V_mono (ok' := fun k_ => True) ho0 (fun k_ hk_ => trivial)) (below_size (by repeat (first | (with_reducible first | exact HB.out | apply below_alloc | apply pw_below_drewN | apply below_drew1) | exact HB.out)))); have n1_ := Aside0.mk (below_step (by repeat (first | (with_reducible first | exact HB.out | apply below_alloc | apply pw_below_drewN | apply below_drew1) | exact HB.out)) hb); clear HB; have HO113 := n0_; have HB := n1_; clear n0_ n1_; (try clear hb); (try clear hb2); (try clear hk); (try clear hi); (try clear ho0); obtain ⟨Ao18, co18, eo18⟩ := Kd.V_slice HO113.out; subst eo18) | ((with_reducible refine gate_dst (N := 35) rfl ?_); (try (refine gate_guard (by rfl) ?_; dsimp only)); refine Kd.R_make (Kd.int .u32) _ 34 rfl (N := 35) rfl 22 _ _ rfl ji14 rfl rfl Try.underlying22 (.int .u32 0) 4 info34 rfl (by decide) (by omega) 0 (ok := fun _ => True) (okp := fun _ => True) rfl (fun _ hk => hk) trivial (of_decide_eq_true (by first | (with_reducible assumption) | assumption)) (Nat.le_trans (Nat.mul_le_mul_right _ (of_decide_eq_true (by first | (with_reducible assumption) | assumption) : ji14.toNat ≤ 70368744177664)) (by omega)) (Below.refl _ _) (Nat.le_refl _) ?_; intro v118 w19 ho20 hb hg_ hnew_; clear hg_ hnew_; (first | rw [← Ny117.out] at ho20 | (simp only [Int.reduceToNat] at ho20; rw [← Ny117.out] at ho20)); have n0_ := Aside0.mk (Kd.V_elder' (by (with_reducible repeat (first | apply Kd.V_alloc | apply Kd.V_drewN | apply Kd.V_drew)); exact HO113.out) (Kd.R_base ho20) hb); have n1_ := Aside0.mk (Kd.R_lower ho20 (below_size (by repeat (first | (with_reducible first | exact HB.out | apply below_alloc | apply pw_below_drewN | apply below_drew1) | exact HB.out)))); have n2_ := Aside0.mk (below_step (by repeat (first | (with_reducible first | exact HB.out | apply below_alloc | apply pw_below_drewN | apply below_drew1) | exact HB.out)) hb); clear HO113; clear HB; have HO113 := n0_; have HO119 := n1_; have HB := n2_; clear n0_ n1_ n2_; clear hb ho20))
      go_loopg [38] k (fun kq v38 w' => ∃ (x7_1 : List Int) (x38_1 : Int), v38 = .int .i64 x38_1 ∧ Aside0 (nat_Shl.l0 kq (wrap64 (Int.tdiv a1 32)) (Int.tmod a1 32) x7_1 t111 (t111.length : Int) x38_1 = some r) ∧ Aside0 (kq ≤ k) ∧ Aside0 (Kd.R (Kd.int .u32) 34 w' w.heap.size (fun _ => True) v118 x7_1) ∧ Aside0 (Kd.V (Kd.int .u32) 34 w' w.heap.size (fun k_ => some k_ ≠ (v118 : Value).ownBlock) (.slice Ao18 t111.length co18) t111) ∧ Aside0 (Below w.heap.size w w'))
      case atStart => exact ⟨(y117), (0), (by first | rfl | (simp; done) | (simp [*]; done)), H', ⟨Nat.le_refl _⟩, ⟨by (with_reducible repeat (first | apply Kd.R_alloc | apply Kd.R_drewN | apply Kd.R_drew)); exact HO119.out⟩, ⟨by (with_reducible repeat (first | apply Kd.V_alloc | apply Kd.V_drewN | apply Kd.V_drew)); exact Kd.V_mono HO113.out (fun _ hk => hk.2)⟩, ⟨by repeat (first | (with_reducible first | exact HB.out | apply below_alloc | apply pw_below_drewN | apply below_drew1) | exact HB.out)⟩⟩
      case round =>
       clear H'
       try clear c1
       try clear p2
       try clear c3
       try clear c4
       try clear c4b0
       try clear p6
       try clear c9
       try clear c9b0
       try clear c11
       try clear c11b0
       try clear c11b1
       try clear c11b2
       try clear c15
       try clear c15b0
       try clear c15b1
       try clear c16
       try clear c16b0
       try clear c16b1
       try clear c17
       obtain ⟨x7_1, x38_1, rfl, HA, HK1, HO_7, HO_36, HB⟩ := hrel
       cases gk with
       | zero => exact absurd HA.out (by simp [nat_Shl.l0])
       | succ k1 =>
        have H := HA.out
        clear HA
        simp only [nat_Shl.l0] at H
        by_cases c21 : x38_1 < (t111.length : Int)
        ·rw [if_pos c21] at H
         have c21b0 : decide (x38_1 < (t111.length : Int)) = true := decide_eq_true c21
         clear c21
         by_cases c22 : 0 ≤ x38_1
         ·rw [if_pos c22] at H
          have c22b0 : decide (0 ≤ x38_1) = true := decide_eq_true c22
          clear c22
          by_cases c23 : x38_1 < (t111.length : Int)
          ·rw [if_pos c23] at H
           have c23b0 : decide (x38_1 < (t111.length : Int)) = true := decide_eq_true c23
           clear c23
           obtain ⟨ji24, hji24⟩ : ∃ j_ : Int, (Int.tmod a1 32) = j_ := ⟨_, rfl⟩
           (first | rw [hji24] at H | simp only [hji24] at H)
           by_cases c25 : 0 ≤ (ji24)
           ·rw [if_pos c25] at H
            have c25b0 := eq_true c25
            have c25b1 : decide (0 ≤ (ji24)) = true := decide_eq_true c25
            clear c25
            obtain ⟨ji26, hji26⟩ : ∃ j_ : Int, (shl .u64 (IntKind.u64.wrap (rd t111 x38_1)) (ji24)) = j_ := ⟨_, rfl⟩
            (first | rw [hji26] at H | simp only [hji26] at H)
            have hji26_ : (IntKind.u64.wrap ((IntKind.u64.wrap (rd t111 x38_1)) * 2 ^ min (ji24).toNat 64)) = ji26 := hji26
            have hji26z : (ji24) ≤ 64 → (IntKind.u64.wrap ((IntKind.u64.wrap (rd t111 x38_1)) * 2 ^ (ji24).toNat)) = ji26 := shl_small hji26
            obtain ⟨ji27, hji27⟩ : ∃ j_ : Int, (wrap64 (x38_1 + (wrap64 (Int.tdiv a1 32)))) = j_ := ⟨_, rfl⟩
            (first | rw [hji27] at H | simp only [hji27] at H)
            have hji27w : (IntKind.i64.wrap (x38_1 + (wrap64 (Int.tdiv a1 32)))) = ji27 := (i64_w _).trans hji27
            by_cases c28 : 0 ≤ (ji27)
            ·rw [if_pos c28] at H
             have c28b0 : decide (0 ≤ (ji27)) = true := decide_eq_true c28
             clear c28
             by_cases c29 : (ji27) < (x7_1.length : Int)
             ·rw [if_pos c29] at H
              have c29b0 : decide ((ji27) < (x7_1.length : Int)) = true := decide_eq_true c29
              clear c29
              obtain ⟨y122, hy122⟩ : ∃ y_ : List Int, y_ = (x7_1.set ((ji27) : Int).toNat (Go.bits .or .u32 (rd x7_1 (ji27)) ((ji26) % 4294967296))) := ⟨_, rfl⟩
              replace H : (if 0 ≤ (wrap64 ((ji27) + 1)) then (if (wrap64 ((ji27) + 1)) < (x7_1.length : Int) then (nat_Shl.l0 k1 (wrap64 (Int.tdiv a1 32)) (ji24) (y122.set ((wrap64 ((ji27) + 1)) : Int).toNat (Go.bits .or .u32 (rd y122 (wrap64 ((ji27) + 1))) (((ji26) / 4294967296) % 4294967296))) t111 (t111.length : Int) (wrap64 (x38_1 + 1))) else (none)) else (none)) = some r := by first | (rw [hy122]; with_reducible exact H) | (have H2_ := (Option.bind_some _ _).symm.trans H; rw [hy122]; with_reducible exact H2_) | (have H2_ := (Option.bind_some _ _).symm.trans H; with_reducible exact H2_) | with_reducible exact H | (rw [hy122]; exact H) | exact H
              have Ny122 := Aside0.mk hy122
              clear hy122
              obtain ⟨ji31, hji31⟩ : ∃ j_ : Int, (wrap64 ((ji27) + 1)) = j_ := ⟨_, rfl⟩
              (first | rw [hji31] at H | simp only [hji31] at H)
              have hji31w : (IntKind.i64.wrap ((ji27) + 1)) = ji31 := (i64_w _).trans hji31
              by_cases c32 : 0 ≤ (ji31)
              ·rw [if_pos c32] at H
               have c32b0 : decide (0 ≤ (ji31)) = true := decide_eq_true c32
               clear c32
               by_cases c33 : (ji31) < (x7_1.length : Int)
               ·rw [if_pos c33] at H
                have c33b0 : decide ((ji31) < (x7_1.length : Int)) = true := decide_eq_true c33
                clear c33
                obtain ⟨y124, hy124⟩ : ∃ y_ : List Int, y_ = (y122.set ((ji31) : Int).toNat (Go.bits .or .u32 (rd y122 (ji31)) (((ji26) / 4294967296) % 4294967296))) := ⟨_, rfl⟩
                replace H : (nat_Shl.l0 k1 (wrap64 (Int.tdiv a1 32)) (ji24) y124 t111 (t111.length : Int) (wrap64 (x38_1 + 1))) = some r := by first | (rw [hy124]; with_reducible exact H) | (have H2_ := (Option.bind_some _ _).symm.trans H; rw [hy124]; with_reducible exact H2_) | (have H2_ := (Option.bind_some _ _).symm.trans H; with_reducible exact H2_) | with_reducible exact H | (rw [hy124]; exact H) | exact H
                have Ny124 := Aside0.mk hy124
                clear hy124
                have H' := Aside0.mk H
                clear H
                have p120 : 0 ≤ (x38_1 : Int) := of_decide_eq_true (by first | (with_reducible assumption) | assumption)
                have q120 : x38_1 < (t111.length : Int) := of_decide_eq_true (by first | (with_reducible assumption) | assumption)
                obtain ⟨ad120, e120, hx120_0⟩ := Kd.at_int (Kd.V_reads' HO_36.out).2.2 x38_1 p120 q120
                cases e120
                replace p120 := eq_true p120
                replace q120 := eq_true q120
                obtain ⟨Ao35, co35, eo35⟩ := Kd.R_slice HO_7.out
                subst eo35
                have p121 : 0 ≤ ((ji27) : Int) := of_decide_eq_true (by first | (with_reducible assumption) | assumption)
                have q121 : (ji27) < (x7_1.length : Int) := of_decide_eq_true (by first | (with_reducible assumption) | assumption)
                obtain ⟨ad121, e121, hx121_0⟩ := Kd.at_int (Kd.R_reads' HO_7.out).2.2 (ji27) p121 q121
                cases e121
                replace p121 := eq_true p121
                replace q121 := eq_true q121
                have p30 : 0 ≤ ((ji27) : Int) := of_decide_eq_true (by first | (with_reducible assumption) | assumption)
                have q30 : ((ji27) : Int) < ((x7_1.length : Int) : Int) := of_decide_eq_true (by first | (with_reducible assumption) | assumption)
                obtain ⟨go30, co30, eo30, gb30, gl30, cl30, HG30⟩ := Kd.R_form HO_7.out (by omega)
                (first | cases eo30 | (injection eo30 with ea_ en_ ec_; (first | subst ea_ | (injection ea_ with ea_; subst ea_)); subst ec_; clear en_))
                have GB30 := Aside0.mk gb30
                have GG30 := Aside0.mk HG30
                clear gb30 gl30 HG30
                (first | simp only [add_plain] at hx121_0 | skip)
                obtain ⟨hx30_0, hf30_0⟩ := Kd.R_celln 0 HO_7.out ((ji27) : Int) p30 q30
                replace p30 := eq_true p30
                replace q30 := eq_true q30
                have HP36 := Kd.R_putg HO_7.out ((ji27) : Int) (Go.bits .or .u32 (rd x7_1 (ji27)) ((ji26) % 4294967296))
                go_wp2_with (first | ((with_reducible refine gate_store (t := 34) (p := 56) rfl ?_); refine store_event (t := 34) (p := 56) (v := ?vo_w37) (w1 := (wr.setCell ⟨go30, ((ji27) : Int).toNat, none⟩ (.int .u32 (Go.bits .or .u32 (rd x7_1 (ji27)) ((ji26) % 4294967296))))) ?hg ?ho ?hn ?hr ?_; (case ho => rfl); (case hg => rfl); (case hn => rfl); (case hr => first | (go_simp; done) | (go_simp; rfl)); intro w37 hw; have hg : wr.grownBy w37 (some go30) := (by rw [hw]; exact HP36.2); have hp_ : Kd.R (Kd.int .u32) 34 w37 w.heap.size (fun _ => True) (.slice (some ⟨go30, 0, none⟩) x7_1.length co35) y122 := (by rw [hw, Ny122.out]; exact HP36.1); clear HP36; have n0_ := Aside0.mk (hp_); have n1_ := Aside0.mk (Kd.V_afterv (v := (.slice (some ⟨go30, 0, none⟩) x7_1.length co35)) (v1 := (.slice (some ⟨go30, 0, none⟩) x7_1.length co35)) (ok := (fun _ => True)) (by (with_reducible repeat (first | apply Kd.V_alloc | apply Kd.V_drewN | apply Kd.V_drew)); exact Kd.V_mono HO_36.out (fun _ hk => by first | exact ⟨trivial, hk⟩ | (simp only [ob_map] at hk ⊢; exact ⟨trivial, hk⟩))) hg (.inl rfl)); have n2_ := Aside0.mk ((by rw [hw]; exact below_set (HB.out) GB30.out : Below w.heap.size w w37)); clear HO_7; clear HO_36; clear HB; have HO_7 := n0_; have HO_36 := n1_; have HB := n2_; clear n0_ n1_ n2_; clear hg hw hp_; have p123 : 0 ≤ ((ji31) : Int) := of_decide_eq_true (by first | (with_reducible assumption) | assumption); have q123 : (ji31) < (y122.length : Int) := (by have h_ : ((ji31) : Int) < ((x7_1.length : Int) : Int) := of_decide_eq_true (by first | (with_reducible assumption) | assumption); first | (have e_ := (Kd.R_reads' HO_7.out).1; omega) | simpa only [Ny122.out, List.length_set] using h_); have ql123 : (((ji31) : Int) < ((x7_1.length : Int) : Int)) = True := eq_true (of_decide_eq_true (by first | (with_reducible assumption) | assumption)); obtain ⟨ad123, e123, hx123_0⟩ := Kd.at_int (Kd.R_reads' HO_7.out).2.2 (ji31) p123 q123; obtain rfl : (⟨go30, 0, none⟩ : Addr) = ad123 := (by injection e123); (first | simp only [add_plain] at hx123_0 | simp only [add_at] at hx123_0 | simp only [Addr.add, Nat.zero_add] at hx123_0 | skip); replace p123 := eq_true p123; replace q123 := eq_true q123; have p34 : 0 ≤ ((ji31) : Int) := of_decide_eq_true (by first | (with_reducible assumption) | assumption); have q34 : ((ji31) : Int) < ((x7_1.length : Int) : Int) := of_decide_eq_true (by first | (with_reducible assumption) | assumption); obtain ⟨hx34_0, hf34_0⟩ := Kd.R_celln 0 HO_7.out ((ji31) : Int) p34 q34; replace p34 := eq_true p34; replace q34 := eq_true q34; obtain ⟨hy38_, hz38_⟩ := Kd.R_celln 0 HO_7.out ((ji31) : Int) (of_decide_eq_true (by first | (with_reducible assumption) | assumption)) (of_decide_eq_true (by first | (with_reducible assumption) | assumption)); have HP38 := Kd.R_putg HO_7.out ((ji31) : Int) (Go.bits .or .u32 (rd y122 (ji31)) (((ji26) / 4294967296) % 4294967296))) | ((with_reducible refine gate_store (t := 34) (p := 68) rfl ?_); refine store_event (t := 34) (p := 68) (v := ?vo_w39) (w1 := (w37.setCell ⟨go30, ((ji31) : Int).toNat, none⟩ (.int .u32 (Go.bits .or .u32 (rd y122 (ji31)) (((ji26) / 4294967296) % 4294967296))))) ?hg ?ho ?hn ?hr ?_; (case ho => rfl); (case hg => rfl); (case hn => rfl); (case hr => first | (go_simp; done) | (go_simp; rfl)); intro w39 hw; have hg : w37.grownBy w39 (some go30) := (by rw [hw]; exact HP38.2); have hp_ : Kd.R (Kd.int .u32) 34 w39 w.heap.size (fun _ => True) (.slice (some ⟨go30, 0, none⟩) x7_1.length co35) y124 := (by rw [hw, Ny124.out]; exact HP38.1); clear HP38; have n0_ := Aside0.mk (hp_); have n1_ := Aside0.mk (Kd.V_afterv (v := (.slice (some ⟨go30, 0, none⟩) x7_1.length co35)) (v1 := (.slice (some ⟨go30, 0, none⟩) x7_1.length co35)) (ok := (fun _ => True)) (by (with_reducible repeat (first | apply Kd.V_alloc | apply Kd.V_drewN | apply Kd.V_drew)); exact HO_36.out) hg (.inl rfl)); have n2_ := Aside0.mk ((by rw [hw]; exact below_set (HB.out) GB30.out : Below w.heap.size w w39)); clear HO_7; clear HO_36; clear HB; have HO_7 := n0_; have HO_36 := n1_; have HB := n2_; clear n0_ n1_ n2_; clear hg hw hp_))
                (try subst hji24)
                go_roundg k1
                case measure => have := HK1.out; omega
                case rel => exact ⟨(y124), (wrap64 (x38_1 + 1)), (by first | rfl | (simp; done) | (simp [*]; done)), H', ⟨by have := HK1.out; omega⟩, ⟨by (with_reducible repeat (first | apply Kd.R_alloc | apply Kd.R_drewN | apply Kd.R_drew)); exact HO_7.out⟩, ⟨by (with_reducible repeat (first | apply Kd.V_alloc | apply Kd.V_drewN | apply Kd.V_drew)); exact Kd.V_mono HO_36.out (fun _ hk => hk.2)⟩, ⟨by repeat (first | (with_reducible first | exact HB.out | apply below_alloc | apply pw_below_drewN | apply below_drew1) | exact HB.out)⟩⟩
               ·rw [if_neg c33] at H
                exact absurd H (by simp)
              ·rw [if_neg c32] at H
               exact absurd H (by simp)
             ·rw [if_neg c29] at H
              exact absurd H (by simp)
            ·rw [if_neg c28] at H
             exact absurd H (by simp)
           ·rw [if_neg c25] at H
            exact absurd H (by simp)
          ·rw [if_neg c23] at H
           exact absurd H (by simp)
         ·rw [if_neg c22] at H
          exact absurd H (by simp)
        ·rw [if_neg c21] at H
         have c21b0 : decide (x38_1 < (t111.length : Int)) = false := decide_eq_false c21
         clear c21
         replace H := Option.bind_eq_some_iff.mp H
         obtain ⟨t125, A400, H⟩ := H
         (try dsimp only at H)
         have A40 := Aside0.mk A400
         clear A400
         obtain rfl := Option.some.inj H
         obtain ⟨Ao41, co41, eo41⟩ := Kd.R_slice HO_7.out
         subst eo41
         go_wp2_with (first | ((with_reducible refine gate_callee (f := 35) rfl ?_); refine goesL_ (some 71) rfl rfl Try.func35 (by kernel_rfl) rfl #[.slice Ao41 x7_1.length co41] rfl (by (try simp only [List.map_toArray, List.map_cons, List.map_nil]); first | done | rfl | (simp only [List.length_drop, List.length_take]; rfl)) ?_; (with_reducible refine (nat_cut_own.calls k1 (fun k_ => some k_ = (.slice Ao41 x7_1.length co41 : Value).ownBlock) (.slice Ao41 x7_1.length co41) x7_1 t125 w _ ?side1 ?side2 A40.out).mono ?_); (case side1 => repeat (first | (with_reducible first | exact HB.out | apply below_alloc | apply pw_below_drewN | apply below_drew1) | exact HB.out)); (case side2 => exact Kd.R_tight rfl HO_7.out); rintro e w42 ⟨v126, rfl, ho0, hb, hkp⟩; refine ⟨_, rfl, ?_⟩; have n0_ := Aside0.mk (Kd.V_mono (ok' := fun k_ => some k_ ≠ (v126 : Value).ownBlock) (Kd.V_keptB (HO_36.out) hkp (fun k_ hk_ hs_ => (hk_) hs_)) (fun k_ hk_ => fun e_ => Or.elim (ho0.1 k_ e_.symm) (fun hs_ => hk_.2.1 hs_) (fun hn_ => Nat.not_le.2 hk_.2.2 hn_))); have n1_ := Aside0.mk (Kd.R_mono (ok' := fun k_ => True) ho0 (fun k_ hk_ => trivial)); have n2_ := Aside0.mk (hb); clear HO_36; clear HB; clear HO_7; have HO_36 := n0_; have HO127 := n1_; have HB := n2_; clear n0_ n1_ n2_; (try clear hb); (try clear hkp); (try clear ho0)))
         go_ret
         exact ⟨_, by first | rfl | (simp [errW_none, errW_some] <;> rfl) | (simp only [← hji14]; first | rfl | (simp [errW_none, errW_some] <;> rfl)) | (simp [*, errW_none, errW_some] <;> rfl), by (with_reducible repeat (first | apply Kd.R_alloc | apply Kd.R_drewN | apply Kd.R_drew)); exact HO127.out, by repeat (first | (with_reducible first | exact HB.out | apply below_alloc | apply pw_below_drewN | apply below_drew1) | exact HB.out)⟩
     ·rw [if_neg c16] at H
      exact absurd H (by simp)
    ·rw [if_neg c15] at H
     exact absurd H (by simp)

/-! ### nat_Shr: function 19 -/
set_option maxHeartbeats 8000000 in
set_option maxRecDepth 100000 in
theorem nat_Shr.calls (k : Nat) (A0 : Option Addr) (c0 : Nat) (l0 : List Int) (a1 : Int) (r : List Int) (w : World) (hr0 : Kd.C (Kd.int .u32) w A0 l0.length l0) (hc0 : l0.length ≤ c0) (h : nat_Shr.f k l0 a1 = some r) :
  Calls Try.prog 19 #[.slice A0 l0.length c0, .int .i64 a1] w fun e w' => ∃ v0_ : Value, e = .returned (v0_) ∧ Kd.R (Kd.int .u32) 34 w' w.heap.size (fun _ => True) v0_ r ∧ Below w.heap.size w w' := by
 have HR0 := Aside0.mk hr0
 have HC0 := Aside0.mk hc0
 clear hr0 hc0
 have HB := Aside0.mk (Below.refl w.heap.size w)
 have H : ((nat_cut.f k l0).bind fun t128 => (if a1 < 1 then ((slices_Clone_uint32_uint32.f t128).bind fun t131 => (some t131)) else (if a1 ≥ (wrap64 (32 * (t128.length : Int))) then (some ([] : List Int)) else (if 0 ≤ (wrap64 ((t128.length : Int) - (wrap64 (Int.tdiv a1 32)))) then (if (wrap64 ((t128.length : Int) - (wrap64 (Int.tdiv a1 32))) : Int).toNat ≤ 70368744177664 then ((some (List.replicate (wrap64 ((t128.length : Int) - (wrap64 (Int.tdiv a1 32))) : Int).toNat 0 : List Int)).bind fun y134 => (nat_Shr.l0 k t128 (wrap64 (Int.tdiv a1 32)) (Int.tmod a1 32) y134 (y134.length : Int) 0)) else (none)) else (none))))) = some r := h
 clear h
 replace H := Option.bind_eq_some_iff.mp H
 obtain ⟨t128, A30, H⟩ := H
 (try dsimp only at H)
 have A3 := Aside0.mk A30
 clear A30
 by_cases c4 : a1 < 1
 ·rw [if_pos c4] at H
  have c4b0 : decide (a1 < 1) = true := decide_eq_true c4
  clear c4
  replace H := Option.bind_eq_some_iff.mp H
  obtain ⟨t131, A50, H⟩ := H
  (try dsimp only at H)
  have A5 := Aside0.mk A50
  clear A50
  obtain rfl := Option.some.inj H
  go_enter Try.func19, Try.ntmps19
  go_wp2_with (first | ((with_reducible refine gate_callee (f := 35) rfl ?_); refine goesL_ (some 11) rfl rfl Try.func35 (by kernel_rfl) rfl #[.slice A0 l0.length c0] rfl (by (try simp only [List.map_toArray, List.map_cons, List.map_nil]); first | done | rfl | (simp only [List.length_drop, List.length_take]; rfl)) ?_; (with_reducible refine (nat_cut.calls k (fun k_ => k_ < w.heap.size) _ _ l0 t128 _ ?side1 A3.out).mono ?_); (case side1 => exact Kd.V_mk HC0.out (Kd.F_below (Kd.C_F (Kd.heap_int .u32) HR0.out) (by repeat (first | (with_reducible first | exact HB.out | apply below_alloc | apply pw_below_drewN | apply below_drew1) | exact HB.out)))); rintro e w6 ⟨v129, rfl, ho0, hb⟩; refine ⟨_, rfl, ?_⟩; have n0_ := Aside0.mk (Kd.V_lower (Kd.V_mono (ok' := fun k_ => True) ho0 (fun k_ hk_ => trivial)) (below_size (by repeat (first | (with_reducible first | exact HB.out | apply below_alloc | apply pw_below_drewN | apply below_drew1) | exact HB.out)))); have n1_ := Aside0.mk (below_step (by repeat (first | (with_reducible first | exact HB.out | apply below_alloc | apply pw_below_drewN | apply below_drew1) | exact HB.out)) hb); clear HB; have HO130 := n0_; have HB := n1_; clear n0_ n1_; (try clear hb); (try clear hb2); (try clear hk); (try clear hi); (try clear ho0); obtain ⟨Ao7, co7, eo7⟩ := Kd.V_slice HO130.out; subst eo7) | ((with_reducible refine gate_callee (f := 36) rfl ?_); refine goesL_ (some 16) rfl rfl Try.func36 (by kernel_rfl) rfl #[.slice Ao7 t128.length co7] rfl (by (try simp only [List.map_toArray, List.map_cons, List.map_nil]); first | done | rfl | (simp only [List.length_drop, List.length_take]; rfl)) ?_; (with_reducible refine (slices_Clone_uint32_uint32.calls _ _ t128 t131 _ ?side1 ?side2 A5.out).mono ?_); (case side1 => repeat (first | exact (Kd.V_reads' HO130.out).2.2 | (with_reducible refine Kd.C_alloc ?_ _) | (with_reducible refine Kd.C_drewN ?_ _) | (with_reducible refine Kd.C_drew ?_))); (case side2 => exact (Kd.V_reads' HO130.out).2.1); rintro e w8 ⟨v132, rfl, ho0, hb⟩; refine ⟨_, rfl, ?_⟩; have n0_ := Aside0.mk (Kd.V_elder' (by (with_reducible repeat (first | apply Kd.V_alloc | apply Kd.V_drewN | apply Kd.V_drew)); exact HO130.out) (Kd.R_base ho0) hb); have n1_ := Aside0.mk (Kd.R_lower ho0 (below_size (by repeat (first | (with_reducible first | exact HB.out | apply below_alloc | apply pw_below_drewN | apply below_drew1) | exact HB.out)))); have n2_ := Aside0.mk (below_step (by repeat (first | (with_reducible first | exact HB.out | apply below_alloc | apply pw_below_drewN | apply below_drew1) | exact HB.out)) hb); clear HO130; clear HB; have HO130 := n0_; have HO133 := n1_; have HB := n2_; clear n0_ n1_ n2_; (try clear hb); (try clear hb2); (try clear hk); (try clear hi); (try clear ho0)))
  go_ret
  exact ⟨_, by first | rfl | (simp [errW_none, errW_some] <;> rfl) | (simp [*, errW_none, errW_some] <;> rfl), by (with_reducible repeat (first | apply Kd.R_alloc | apply Kd.R_drewN | apply Kd.R_drew)); exact HO133.out, by repeat (first | (with_reducible first | exact HB.out | apply below_alloc | apply pw_below_drewN | apply below_drew1) | exact HB.out)⟩
 ·rw [if_neg c4] at H
  have c4b0 : decide (a1 < 1) = false := decide_eq_false c4
  clear c4
  by_cases c9 : a1 ≥ (wrap64 (32 * (t128.length : Int)))
  ·rw [if_pos c9] at H
   have c9b0 : decide ((wrap64 (32 * (t128.length : Int))) ≤ a1) = true := decide_eq_true c9
   clear c9
   obtain rfl := Option.some.inj H
   go_enter Try.func19, Try.ntmps19
   go_wp2_with (first | ((with_reducible refine gate_callee (f := 35) rfl ?_); refine goesL_ (some 11) rfl rfl Try.func35 (by kernel_rfl) rfl #[.slice A0 l0.length c0] rfl (by (try simp only [List.map_toArray, List.map_cons, List.map_nil]); first | done | rfl | (simp only [List.length_drop, List.length_take]; rfl)) ?_; (with_reducible refine (nat_cut.calls k (fun k_ => k_ < w.heap.size) _ _ l0 t128 _ ?side1 A3.out).mono ?_); (case side1 => exact Kd.V_mk HC0.out (Kd.F_below (Kd.C_F (Kd.heap_int .u32) HR0.out) (by repeat (first | (with_reducible first | exact HB.out | apply below_alloc | apply pw_below_drewN | apply below_drew1) | exact HB.out)))); rintro e w10 ⟨v129, rfl, ho0, hb⟩; refine ⟨_, rfl, ?_⟩; have n0_ := Aside0.mk (Kd.V_lower (Kd.V_mono (ok' := fun k_ => True) ho0 (fun k_ hk_ => trivial)) (below_size (by repeat (first | (with_reducible first | exact HB.out | apply below_alloc | apply pw_below_drewN | apply below_drew1) | exact HB.out)))); have n1_ := Aside0.mk (below_step (by repeat (first | (with_reducible first | exact HB.out | apply below_alloc | apply pw_below_drewN | apply below_drew1) | exact HB.out)) hb); clear HB; have HO130 := n0_; have HB := n1_; clear n0_ n1_; (try clear hb); (try clear hb2); (try clear hk); (try clear hi); (try clear ho0); obtain ⟨Ao11, co11, eo11⟩ := Kd.V_slice HO130.out; subst eo11))
   go_ret
   exact ⟨_, by first | rfl | (simp [errW_none, errW_some] <;> rfl) | (simp [*, errW_none, errW_some] <;> rfl), by first | exact Kd.R_nil _ _ _ _ _ | exact Kd.N_nil _ _ _ _ _ | exact Kd.V_nil _ _ _ _ _ | exact Kd.Q_nil _ _ _ _ _ | exact Kd.S_nil _ _ _ _ _, by repeat (first | (with_reducible first | exact HB.out | apply below_alloc | apply pw_below_drewN | apply below_drew1) | exact HB.out)⟩
  ·rw [if_neg c9] at H
   have c9b0 : decide ((wrap64 (32 * (t128.length : Int))) ≤ a1) = false := decide_eq_false c9
   clear c9
   obtain ⟨ji12, hji12⟩ : ∃ j_ : Int, (wrap64 ((t128.length : Int) - (wrap64 (Int.tdiv a1 32)))) = j_ := ⟨_, rfl⟩
   (first | rw [hji12] at H | simp only [hji12] at H)
   (try rw [hji12] at A3)
   have hji12w : (IntKind.i64.wrap ((t128.length : Int) - (wrap64 (Int.tdiv a1 32)))) = ji12 := (i64_w _).trans hji12
   by_cases c13 : 0 ≤ (ji12)
   ·rw [if_pos c13] at H
    have c13b0 := eq_true c13
    have c13b1 : decide (0 ≤ (ji12)) = true := decide_eq_true c13
    clear c13
    by_cases c14 : (ji12 : Int).toNat ≤ 70368744177664
    ·rw [if_pos c14] at H
     have c14b0 := eq_true c14
     have c14b1 : decide ((ji12 : Int).toNat ≤ 70368744177664) = true := decide_eq_true c14
     clear c14
     obtain ⟨y134, hy134⟩ : ∃ y_ : List Int, y_ = (List.replicate (ji12 : Int).toNat 0) := ⟨_, rfl⟩
     replace H : (nat_Shr.l0 k t128 (wrap64 (Int.tdiv a1 32)) (Int.tmod a1 32) y134 (y134.length : Int) 0) = some r := by first | (rw [hy134]; with_reducible exact H) | (have H2_ := (Option.bind_some _ _).symm.trans H; rw [hy134]; with_reducible exact H2_) | (have H2_ := (Option.bind_some _ _).symm.trans H; with_reducible exact H2_) | with_reducible exact H | (rw [hy134]; exact H) | exact H
     have Ny134 := Aside0.mk hy134
     clear hy134
     have H' := Aside0.mk H
     clear H
     go_enter Try.func19, Try.ntmps19
     go_wp2_with (first | ((with_reducible refine gate_callee (f := 35) rfl ?_); refine goesL_ (some 11) rfl rfl Try.func35 (by kernel_rfl) rfl #[.slice A0 l0.length c0] rfl (by (try simp only [List.map_toArray, List.map_cons, List.map_nil]); first | done | rfl | (simp only [List.length_drop, List.length_take]; rfl)) ?_; (with_reducible refine (nat_cut.calls k (fun k_ => k_ < w.heap.size) _ _ l0 t128 _ ?side1 A3.out).mono ?_); (case side1 => exact Kd.V_mk HC0.out (Kd.F_below (Kd.C_F (Kd.heap_int .u32) HR0.out) (by repeat (first | (with_reducible first | exact HB.out | apply below_alloc | apply pw_below_drewN | apply below_drew1) | exact HB.out)))); rintro e w15 ⟨v129, rfl, ho0, hb⟩; refine ⟨_, rfl, ?_⟩; have n0_ := Aside0.mk (Kd.V_lower (Kd.V_mono (ok' := fun k_ => True) ho0 (fun k_ hk_ => trivial)) (below_size (by repeat (first | (with_reducible first | exact HB.out | apply below_alloc | apply pw_below_drewN | apply below_drew1) | exact HB.out)))); have n1_ := Aside0.mk (below_step (by repeat (first | (with_reducible first | exact HB.out | apply below_alloc | apply pw_below_drewN | apply below_drew1) | exact HB.out)) hb); clear HB; have HO130 := n0_; have HB := n1_; clear n0_ n1_; (try clear hb); (try clear hb2); (try clear hk); (try clear hi); (try clear ho0); obtain ⟨Ao16, co16, eo16⟩ := Kd.V_slice HO130.out; subst eo16) | ((with_reducible refine gate_dst (N := 31) rfl ?_); refine Kd.R_make (Kd.int .u32) _ 34 rfl (N := 31) rfl 22 _ _ rfl ji12 rfl rfl Try.underlying22 (.int .u32 0) 4 info34 rfl (by decide) (by omega) 0 (ok := fun _ => True) (okp := fun _ => True) rfl (fun _ hk => hk) trivial (of_decide_eq_true (by first | (with_reducible assumption) | assumption)) (Nat.le_trans (Nat.mul_le_mul_right _ (of_decide_eq_true (by first | (with_reducible assumption) | assumption) : ji12.toNat ≤ 70368744177664)) (by omega)) (Below.refl _ _) (Nat.le_refl _) ?_; intro v135 w17 ho18 hb hg_ hnew_; clear hg_ hnew_; (first | rw [← Ny134.out] at ho18 | (simp only [Int.reduceToNat] at ho18; rw [← Ny134.out] at ho18)); have n0_ := Aside0.mk (Kd.V_elder' (by (with_reducible repeat (first | apply Kd.V_alloc | apply Kd.V_drewN | apply Kd.V_drew)); exact HO130.out) (Kd.R_base ho18) hb); have n1_ := Aside0.mk (Kd.R_lower ho18 (below_size (by repeat (first | (with_reducible first | exact HB.out | apply below_alloc | apply pw_below_drewN | apply below_drew1) | exact HB.out)))); have n2_ := Aside0.mk (below_step (by repeat (first | (with_reducible first | exact HB.out | apply below_alloc | apply pw_below_drewN | apply below_drew1) | exact HB.out)) hb); clear HO130; clear HB; have HO130 := n0_; have HO136 := n1_; have HB := n2_; clear n0_ n1_ n2_; clear hb ho18; obtain ⟨Ao19, co19, eo19⟩ := Kd.R_slice HO136.out; subst eo19))
     go_loopg [34] k (fun kq v34 w' => ∃ (x7_1 : List Int) (x34_1 : Int), v34 = .int .i64 x34_1 ∧ Aside0 (nat_Shr.l0 kq t128 (wrap64 (Int.tdiv a1 32)) (Int.tmod a1 32) x7_1 (y134.length : Int) x34_1 = some r) ∧ Aside0 (kq ≤ k) ∧ Aside0 (Kd.V (Kd.int .u32) 34 w' w.heap.size (fun k_ => some k_ ≠ ((.slice Ao19 y134.length co19) : Value).ownBlock) (.slice Ao16 t128.length co16) t128) ∧ Aside0 (Kd.R (Kd.int .u32) 34 w' w.heap.size (fun _ => True) (.slice Ao19 y134.length co19) x7_1) ∧ Aside0 (Below w.heap.size w w'))
     case atStart => exact ⟨(y134), (0), (by first | rfl | (simp; done) | (simp [*]; done)), H', ⟨Nat.le_refl _⟩, ⟨by (with_reducible repeat (first | apply Kd.V_alloc | apply Kd.V_drewN | apply Kd.V_drew)); exact Kd.V_mono HO130.out (fun _ hk => hk.2)⟩, ⟨by (with_reducible repeat (first | apply Kd.R_alloc | apply Kd.R_drewN | apply Kd.R_drew)); exact HO136.out⟩, ⟨by repeat (first | (with_reducible first | exact HB.out | apply below_alloc | apply pw_below_drewN | apply below_drew1) | exact HB.out)⟩⟩
     case round =>
      clear H'
      try clear c1
      try clear p2
      try clear c3
      try clear c4
      try clear c4b0
      try clear p6
      try clear c9
      try clear c9b0
      try clear c13
      try clear c13b0
      try clear c13b1
      try clear c14
      try clear c14b0
      try clear c14b1
      try clear c19
      obtain ⟨x7_1, x34_1, rfl, HA, HK1, HO_0, HO_7, HB⟩ := hrel
      have hl7_1 := (Kd.R_reads' HO_7.out).1
      rw [hl7_1] at HO_7
      (try simp only [hl7_1])
      (try simp only [hl7_1] at HO_0)
      cases gk with
      | zero => exact absurd HA.out (by simp [nat_Shr.l0])
      | succ k1 =>
       have H := HA.out
       clear HA
       simp only [nat_Shr.l0] at H
       by_cases c20 : x34_1 < (y134.length : Int)
       ·rw [if_pos c20] at H
        have c20b0 : decide (x34_1 < (y134.length : Int)) = true := decide_eq_true c20
        (try (have c20b0r := c20b0; rw [hl7_1] at c20b0r))
        clear c20
        obtain ⟨ji21, hji21⟩ : ∃ j_ : Int, (wrap64 (x34_1 + (wrap64 (Int.tdiv a1 32)))) = j_ := ⟨_, rfl⟩
        (first | rw [hji21] at H | simp only [hji21] at H)
        have hji21w : (IntKind.i64.wrap (x34_1 + (wrap64 (Int.tdiv a1 32)))) = ji21 := (i64_w _).trans hji21
        by_cases c22 : 0 ≤ (ji21)
        ·rw [if_pos c22] at H
         have c22b0 : decide (0 ≤ (ji21)) = true := decide_eq_true c22
         (try (have c22b0r := c22b0; rw [hl7_1] at c22b0r))
         clear c22
         by_cases c23 : (ji21) < (t128.length : Int)
         ·rw [if_pos c23] at H
          have c23b0 : decide ((ji21) < (t128.length : Int)) = true := decide_eq_true c23
          (try (have c23b0r := c23b0; rw [hl7_1] at c23b0r))
          clear c23
          by_cases c24 : (wrap64 ((ji21) + 1)) < (t128.length : Int)
          ·rw [if_pos c24] at H
           have c24b0 : decide ((wrap64 ((ji21) + 1)) < (t128.length : Int)) = true := decide_eq_true c24
           (try (have c24b0r := c24b0; rw [hl7_1] at c24b0r))
           clear c24
           obtain ⟨ji25, hji25⟩ : ∃ j_ : Int, (wrap64 ((ji21) + 1)) = j_ := ⟨_, rfl⟩
           (first | rw [hji25] at H | simp only [hji25] at H)
           (try rw [hji25] at c24b0)
           have hji25w : (IntKind.i64.wrap ((ji21) + 1)) = ji25 := (i64_w _).trans hji25
           by_cases c26 : 0 ≤ (ji25)
           ·rw [if_pos c26] at H
            have c26b0 : decide (0 ≤ (ji25)) = true := decide_eq_true c26
            (try (have c26b0r := c26b0; rw [hl7_1] at c26b0r))
            clear c26
            obtain ⟨ji27, hji27⟩ : ∃ j_ : Int, (Int.tmod a1 32) = j_ := ⟨_, rfl⟩
            (first | rw [hji27] at H | simp only [hji27] at H)
            by_cases c28 : 0 ≤ (ji27)
            ·rw [if_pos c28] at H
             have c28b0 := eq_true c28
             have c28b1 : decide (0 ≤ (ji27)) = true := decide_eq_true c28
             (try (have c28b1r := c28b1; rw [hl7_1] at c28b1r))
             clear c28
             obtain ⟨ji29, hji29⟩ : ∃ j_ : Int, (shr .u64 (Go.bits .or .u64 (IntKind.u64.wrap (rd t128 (ji21))) (IntKind.u64.wrap ((IntKind.u64.wrap (rd t128 (ji25))) * 4294967296))) (ji27)) = j_ := ⟨_, rfl⟩
             (first | rw [hji29] at H | simp only [hji29] at H)
             have hji29_ : ((Go.bits .or .u64 (IntKind.u64.wrap (rd t128 (ji21))) (IntKind.u64.wrap ((IntKind.u64.wrap (rd t128 (ji25))) * 4294967296))) / 2 ^ min (ji27).toNat 64) = ji29 := hji29
             have hji29z : (ji27) ≤ 64 → ((Go.bits .or .u64 (IntKind.u64.wrap (rd t128 (ji21))) (IntKind.u64.wrap ((IntKind.u64.wrap (rd t128 (ji25))) * 4294967296))) / 2 ^ (ji27).toNat) = ji29 := shr_small hji29
             by_cases c30 : 0 ≤ x34_1
             ·rw [if_pos c30] at H
              have c30b0 : decide (0 ≤ x34_1) = true := decide_eq_true c30
              (try (have c30b0r := c30b0; rw [hl7_1] at c30b0r))
              clear c30
              by_cases c31 : x34_1 < (x7_1.length : Int)
              ·rw [if_pos c31] at H
               have c31b0 : decide (x34_1 < (x7_1.length : Int)) = true := decide_eq_true c31
               (try (have c31b0r := c31b0; rw [hl7_1] at c31b0r))
               clear c31
               obtain ⟨y139, hy139⟩ : ∃ y_ : List Int, y_ = (x7_1.set (x34_1 : Int).toNat ((ji29) % 4294967296)) := ⟨_, rfl⟩
               replace H : (nat_Shr.l0 k1 t128 (wrap64 (Int.tdiv a1 32)) (ji27) y139 (y134.length : Int) (wrap64 (x34_1 + 1))) = some r := by first | (rw [hy139]; with_reducible exact H) | (have H2_ := (Option.bind_some _ _).symm.trans H; rw [hy139]; with_reducible exact H2_) | (have H2_ := (Option.bind_some _ _).symm.trans H; with_reducible exact H2_) | with_reducible exact H | (rw [hy139]; exact H) | exact H
               have Ny139 := Aside0.mk hy139
               clear hy139
               have H' := Aside0.mk H
               clear H
               have p137 : 0 ≤ ((ji21) : Int) := of_decide_eq_true (by first | (with_reducible assumption) | assumption)
               have q137 : (ji21) < (t128.length : Int) := of_decide_eq_true (by first | (with_reducible assumption) | assumption)
               obtain ⟨ad137, e137, hx137_0⟩ := Kd.at_int (Kd.V_reads' HO_0.out).2.2 (ji21) p137 q137
               cases e137
               replace p137 := eq_true p137
               replace q137 := eq_true q137
               have p138 : 0 ≤ ((ji25) : Int) := of_decide_eq_true (by first | (with_reducible assumption) | assumption)
               have q138 : (ji25) < (t128.length : Int) := of_decide_eq_true (by first | (with_reducible assumption) | assumption)
               obtain ⟨ad138, e138, hx138_0⟩ := Kd.at_int (Kd.V_reads' HO_0.out).2.2 (ji25) p138 q138
               obtain rfl : ad137 = ad138 := (by injection e138)
               replace p138 := eq_true p138
               replace q138 := eq_true q138
               have p32 : 0 ≤ (x34_1 : Int) := of_decide_eq_true (by first | (with_reducible assumption) | assumption)
               have q32 : (x34_1 : Int) < ((x7_1.length : Int) : Int) := of_decide_eq_true (by first | (with_reducible assumption) | assumption)
               obtain ⟨go32, co32, eo32, gb32, gl32, cl32, HG32⟩ := Kd.R_form HO_7.out (by omega)
               (first | cases eo32 | (injection eo32 with ea_ en_ ec_; (first | subst ea_ | (injection ea_ with ea_; subst ea_)); subst ec_; clear en_))
               have GB32 := Aside0.mk gb32
               have GG32 := Aside0.mk HG32
               clear gb32 gl32 HG32
               obtain ⟨hx32_0, hf32_0⟩ := Kd.R_celln 0 HO_7.out (x34_1 : Int) p32 q32
               replace p32 := eq_true p32
               replace q32 := eq_true q32
               have HP33 := Kd.R_putg HO_7.out (x34_1 : Int) ((ji29) % 4294967296)
               go_wp2_with (first | ((with_reducible refine gate_store (t := 34) (p := 68) rfl ?_); refine store_event (t := 34) (p := 68) (v := ?vo_w34) (w1 := (wr.setCell ⟨go32, (x34_1 : Int).toNat, none⟩ (.int .u32 ((ji29) % 4294967296)))) ?hg ?ho ?hn ?hr ?_; (case ho => rfl); (case hg => rfl); (case hn => rfl); (case hr => first | (go_simp; done) | (go_simp; rfl)); intro w34 hw; have hg : wr.grownBy w34 (some go32) := (by rw [hw]; exact HP33.2); have hp_ : Kd.R (Kd.int .u32) 34 w34 w.heap.size (fun _ => True) (.slice (some ⟨go32, 0, none⟩) x7_1.length co19) y139 := (by rw [hw, Ny139.out]; exact HP33.1); clear HP33; have n0_ := Aside0.mk (Kd.V_afterv (v := (.slice (some ⟨go32, 0, none⟩) x7_1.length co19)) (v1 := (.slice (some ⟨go32, 0, none⟩) x7_1.length co19)) (ok := (fun _ => True)) (by (with_reducible repeat (first | apply Kd.V_alloc | apply Kd.V_drewN | apply Kd.V_drew)); exact Kd.V_mono HO_0.out (fun _ hk => by first | exact ⟨trivial, hk⟩ | (simp only [ob_map] at hk ⊢; exact ⟨trivial, hk⟩))) hg (.inl rfl)); have n1_ := Aside0.mk (hp_); have n2_ := Aside0.mk ((by rw [hw]; exact below_set (HB.out) GB32.out : Below w.heap.size w w34)); clear HO_0; clear HO_7; clear HB; have HO_0 := n0_; have HO_7 := n1_; have HB := n2_; clear n0_ n1_ n2_; clear hg hw hp_))
               (try simp only [← hl7_1])
               (try subst hji27)
               go_roundg k1
               case measure => have := HK1.out; omega
               case rel => exact ⟨(y139), (wrap64 (x34_1 + 1)), (by first | rfl | (simp; done) | (simp [*]; done)), H', ⟨by have := HK1.out; omega⟩, ⟨by (try simp only [hl7_1]); (with_reducible repeat (first | apply Kd.V_alloc | apply Kd.V_drewN | apply Kd.V_drew)); exact Kd.V_mono HO_0.out (fun _ hk => hk.2)⟩, ⟨by (try simp only [hl7_1]); (with_reducible repeat (first | apply Kd.R_alloc | apply Kd.R_drewN | apply Kd.R_drew)); exact HO_7.out⟩, ⟨by repeat (first | (with_reducible first | exact HB.out | apply below_alloc | apply pw_below_drewN | apply below_drew1) | exact HB.out)⟩⟩
              ·rw [if_neg c31] at H
               exact absurd H (by simp)
             ·rw [if_neg c30] at H
              exact absurd H (by simp)
            ·rw [if_neg c28] at H
             exact absurd H (by simp)
           ·rw [if_neg c26] at H
            exact absurd H (by simp)
          ·rw [if_neg c24] at H
           have c24b0 : decide ((wrap64 ((ji21) + 1)) < (t128.length : Int)) = false := decide_eq_false c24
           (try (have c24b0r := c24b0; rw [hl7_1] at c24b0r))
           clear c24
           obtain ⟨ji35, hji35⟩ : ∃ j_ : Int, (Int.tmod a1 32) = j_ := ⟨_, rfl⟩
           (first | rw [hji35] at H | simp only [hji35] at H)
           by_cases c36 : 0 ≤ (ji35)
           ·rw [if_pos c36] at H
            have c36b0 := eq_true c36
            have c36b1 : decide (0 ≤ (ji35)) = true := decide_eq_true c36
            (try (have c36b1r := c36b1; rw [hl7_1] at c36b1r))
            clear c36
            obtain ⟨ji37, hji37⟩ : ∃ j_ : Int, (shr .u64 (IntKind.u64.wrap (rd t128 (ji21))) (ji35)) = j_ := ⟨_, rfl⟩
            (first | rw [hji37] at H | simp only [hji37] at H)
            have hji37_ : ((IntKind.u64.wrap (rd t128 (ji21))) / 2 ^ min (ji35).toNat 64) = ji37 := hji37
            have hji37z : (ji35) ≤ 64 → ((IntKind.u64.wrap (rd t128 (ji21))) / 2 ^ (ji35).toNat) = ji37 := shr_small hji37
            by_cases c38 : 0 ≤ x34_1
            ·rw [if_pos c38] at H
             have c38b0 : decide (0 ≤ x34_1) = true := decide_eq_true c38
             (try (have c38b0r := c38b0; rw [hl7_1] at c38b0r))
             clear c38
             by_cases c39 : x34_1 < (x7_1.length : Int)
             ·rw [if_pos c39] at H
              have c39b0 : decide (x34_1 < (x7_1.length : Int)) = true := decide_eq_true c39
              (try (have c39b0r := c39b0; rw [hl7_1] at c39b0r))
              clear c39
              obtain ⟨y140, hy140⟩ : ∃ y_ : List Int, y_ = (x7_1.set (x34_1 : Int).toNat ((ji37) % 4294967296)) := ⟨_, rfl⟩
              replace H : (nat_Shr.l0 k1 t128 (wrap64 (Int.tdiv a1 32)) (ji35) y140 (y134.length : Int) (wrap64 (x34_1 + 1))) = some r := by first | (rw [hy140]; with_reducible exact H) | (have H2_ := (Option.bind_some _ _).symm.trans H; rw [hy140]; with_reducible exact H2_) | (have H2_ := (Option.bind_some _ _).symm.trans H; with_reducible exact H2_) | with_reducible exact H | (rw [hy140]; exact H) | exact H
              have Ny140 := Aside0.mk hy140
              clear hy140
              have H' := Aside0.mk H
              clear H
              have p137 : 0 ≤ ((ji21) : Int) := of_decide_eq_true (by first | (with_reducible assumption) | assumption)
              have q137 : (ji21) < (t128.length : Int) := of_decide_eq_true (by first | (with_reducible assumption) | assumption)
              obtain ⟨ad137, e137, hx137_0⟩ := Kd.at_int (Kd.V_reads' HO_0.out).2.2 (ji21) p137 q137
              cases e137
              replace p137 := eq_true p137
              replace q137 := eq_true q137
              have p40 : 0 ≤ (x34_1 : Int) := of_decide_eq_true (by first | (with_reducible assumption) | assumption)
              have q40 : (x34_1 : Int) < ((x7_1.length : Int) : Int) := of_decide_eq_true (by first | (with_reducible assumption) | assumption)
              obtain ⟨go40, co40, eo40, gb40, gl40, cl40, HG40⟩ := Kd.R_form HO_7.out (by omega)
              (first | cases eo40 | (injection eo40 with ea_ en_ ec_; (first | subst ea_ | (injection ea_ with ea_; subst ea_)); subst ec_; clear en_))
              have GB40 := Aside0.mk gb40
              have GG40 := Aside0.mk HG40
              clear gb40 gl40 HG40
              obtain ⟨hx40_0, hf40_0⟩ := Kd.R_celln 0 HO_7.out (x34_1 : Int) p40 q40
              replace p40 := eq_true p40
              replace q40 := eq_true q40
              have HP41 := Kd.R_putg HO_7.out (x34_1 : Int) ((ji37) % 4294967296)
              go_wp2_with (first | ((with_reducible refine gate_store (t := 34) (p := 68) rfl ?_); refine store_event (t := 34) (p := 68) (v := ?vo_w42) (w1 := (wr.setCell ⟨go40, (x34_1 : Int).toNat, none⟩ (.int .u32 ((ji37) % 4294967296)))) ?hg ?ho ?hn ?hr ?_; (case ho => rfl); (case hg => rfl); (case hn => rfl); (case hr => first | (go_simp; done) | (go_simp; rfl)); intro w42 hw; have hg : wr.grownBy w42 (some go40) := (by rw [hw]; exact HP41.2); have hp_ : Kd.R (Kd.int .u32) 34 w42 w.heap.size (fun _ => True) (.slice (some ⟨go40, 0, none⟩) x7_1.length co19) y140 := (by rw [hw, Ny140.out]; exact HP41.1); clear HP41; have n0_ := Aside0.mk (Kd.V_afterv (v := (.slice (some ⟨go40, 0, none⟩) x7_1.length co19)) (v1 := (.slice (some ⟨go40, 0, none⟩) x7_1.length co19)) (ok := (fun _ => True)) (by (with_reducible repeat (first | apply Kd.V_alloc | apply Kd.V_drewN | apply Kd.V_drew)); exact Kd.V_mono HO_0.out (fun _ hk => by first | exact ⟨trivial, hk⟩ | (simp only [ob_map] at hk ⊢; exact ⟨trivial, hk⟩))) hg (.inl rfl)); have n1_ := Aside0.mk (hp_); have n2_ := Aside0.mk ((by rw [hw]; exact below_set (HB.out) GB40.out : Below w.heap.size w w42)); clear HO_0; clear HO_7; clear HB; have HO_0 := n0_; have HO_7 := n1_; have HB := n2_; clear n0_ n1_ n2_; clear hg hw hp_))
              (try simp only [← hl7_1])
              (try subst hji35)
              go_roundg k1
              case measure => have := HK1.out; omega
              case rel => exact ⟨(y140), (wrap64 (x34_1 + 1)), (by first | rfl | (simp; done) | (simp [*]; done)), H', ⟨by have := HK1.out; omega⟩, ⟨by (try simp only [hl7_1]); (with_reducible repeat (first | apply Kd.V_alloc | apply Kd.V_drewN | apply Kd.V_drew)); exact Kd.V_mono HO_0.out (fun _ hk => hk.2)⟩, ⟨by (try simp only [hl7_1]); (with_reducible repeat (first | apply Kd.R_alloc | apply Kd.R_drewN | apply Kd.R_drew)); exact HO_7.out⟩, ⟨by repeat (first | (with_reducible first | exact HB.out | apply below_alloc | apply pw_below_drewN | apply below_drew1) | exact HB.out)⟩⟩
             ·rw [if_neg c39] at H
              exact absurd H (by simp)
            ·rw [if_neg c38] at H
             exact absurd H (by simp)
           ·rw [if_neg c36] at H
            exact absurd H (by simp)
         ·rw [if_neg c23] at H
          exact absurd H (by simp)
        ·rw [if_neg c22] at H
         exact absurd H (by simp)
       ·rw [if_neg c20] at H
        have c20b0 : decide (x34_1 < (y134.length : Int)) = false := decide_eq_false c20
        (try (have c20b0r := c20b0; rw [hl7_1] at c20b0r))
        clear c20
        replace H := Option.bind_eq_some_iff.mp H
        obtain ⟨t141, A430, H⟩ := H
        (try dsimp only at H)
        have A43 := Aside0.mk A430
        clear A430
        obtain rfl := Option.some.inj H
        go_wp2_with (first | ((with_reducible refine gate_callee (f := 35) rfl ?_); refine goesL_ (some 71) rfl rfl Try.func35 (by kernel_rfl) rfl #[.slice Ao19 x7_1.length co19] rfl (by (try simp only [List.map_toArray, List.map_cons, List.map_nil]); first | done | rfl | (simp only [List.length_drop, List.length_take]; rfl)) ?_; (with_reducible refine (nat_cut_own.calls k1 (fun k_ => some k_ = (.slice Ao19 x7_1.length co19 : Value).ownBlock) (.slice Ao19 x7_1.length co19) x7_1 t141 w _ ?side1 ?side2 A43.out).mono ?_); (case side1 => repeat (first | (with_reducible first | exact HB.out | apply below_alloc | apply pw_below_drewN | apply below_drew1) | exact HB.out)); (case side2 => exact Kd.R_tight rfl HO_7.out); rintro e w44 ⟨v142, rfl, ho0, hb, hkp⟩; refine ⟨_, rfl, ?_⟩; have n0_ := Aside0.mk (Kd.V_mono (ok' := fun k_ => some k_ ≠ (v142 : Value).ownBlock) (Kd.V_keptB (HO_0.out) hkp (fun k_ hk_ hs_ => (hk_) hs_)) (fun k_ hk_ => fun e_ => Or.elim (ho0.1 k_ e_.symm) (fun hs_ => hk_.2.1 hs_) (fun hn_ => Nat.not_le.2 hk_.2.2 hn_))); have n1_ := Aside0.mk (Kd.R_mono (ok' := fun k_ => True) ho0 (fun k_ hk_ => trivial)); have n2_ := Aside0.mk (hb); clear HO_0; clear HB; clear HO_7; have HO_0 := n0_; have HO143 := n1_; have HB := n2_; clear n0_ n1_ n2_; (try clear hb); (try clear hkp); (try clear ho0)))
        go_ret
        exact ⟨_, by first | rfl | (simp [errW_none, errW_some] <;> rfl) | (simp only [← hji12]; first | rfl | (simp [errW_none, errW_some] <;> rfl)) | (simp [*, errW_none, errW_some] <;> rfl), by (with_reducible repeat (first | apply Kd.R_alloc | apply Kd.R_drewN | apply Kd.R_drew)); exact HO143.out, by repeat (first | (with_reducible first | exact HB.out | apply below_alloc | apply pw_below_drewN | apply below_drew1) | exact HB.out)⟩
    ·rw [if_neg c14] at H
     exact absurd H (by simp)
   ·rw [if_neg c13] at H
    exact absurd H (by simp)

end Go.Proofs.Ytdaoijgnolhnoaa.PN
