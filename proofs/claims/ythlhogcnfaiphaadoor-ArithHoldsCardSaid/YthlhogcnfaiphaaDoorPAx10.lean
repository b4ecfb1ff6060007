-- Laid by this work's own program; Lean checks it.
import Derived.Test.YthlhogcnfaiphaaDoorPAx0
import Derived.Test.YthlhogcnfaiphaaDoorPAx2
import Derived.Test.YthlhogcnfaiphaaDoorPAx7
import Derived.Test.YthlhogcnfaiphaaDoorPAx9
namespace Go.Proofs.YthlhogcnfaiphaaDoor.PA
open Go.RowKit Go.Proofs.YthlhogcnfaiphaaDoorW.PrintWords Go.Proofs.YthlhogcnfaiphaaDoorW.PrintLast Go.Proofs.YthlhogcnfaiphaaDoorW.PrintMore
attribute [local go_sem] max2_int min2_int max_two min_two max_three min_three max_four min_four   -- for this text's walks alone
set_option linter.unusedVariables false
set_option linter.unusedSimpArgs false

attribute [local go_sem ↓ high] isSome_set_
/-! ### nat_Cmp: function 58 -/
set_option maxHeartbeats 8000000 in
set_option maxRecDepth 100000 in
theorem nat_Cmp.calls (k : Nat) (A0 : Option Addr) (c0 : Nat) (l0 : List Int) (A1 : Option Addr) (c1 : Nat) (l1 : List Int) (r : Int) (w : World) (hr0 : Kd.C (Kd.int .u32) w A0 l0.length l0) (hc0 : l0.length ≤ c0) (hr1 : Kd.C (Kd.int .u32) w A1 l1.length l1) (hc1 : l1.length ≤ c1) (h : nat_Cmp.f k l0 l1 = some r) :
  Calls Tryd.prog 58 #[.slice A0 l0.length c0, .slice A1 l1.length c1] w fun e w' => e = .returned (.int .i64 r) ∧ Below w.heap.size w w' := by
 have HR0 := Aside0.mk hr0
 have HC0 := Aside0.mk hc0
 clear hr0 hc0
 have HR1 := Aside0.mk hr1
 have HC1 := Aside0.mk hc1
 clear hr1 hc1
 have HB := Aside0.mk (Below.refl w.heap.size w)
 have H : ((nat_cut.f k l0).bind fun t434 => ((nat_cut.f k l1).bind fun t437 => (if (t434.length : Int) < (t437.length : Int) then (some (-1)) else (if (t434.length : Int) > (t437.length : Int) then (some 1) else (nat_Cmp.l0 k t434 t437 (t434.length : Int) 0))))) = some r := h
 clear h
 replace H := Option.bind_eq_some_iff.mp H
 obtain ⟨t434, A30, H⟩ := H
 (try dsimp only at H)
 have A3 := Aside0.mk A30
 clear A30
 replace H := Option.bind_eq_some_iff.mp H
 obtain ⟨t437, A40, H⟩ := H
 (try dsimp only at H)
 have A4 := Aside0.mk A40
 clear A40
 by_cases c5 : (t434.length : Int) < (t437.length : Int)
 ·rw [if_pos c5] at H
  have c5b0 : decide ((t434.length : Int) < (t437.length : Int)) = true := decide_eq_true c5
  have c5b1 : decide (t434.length < t437.length) = true := decide_eq_true (Int.ofNat_lt.mp c5)
  clear c5
  obtain rfl := Option.some.inj H
  go_enter Tryd.func58, Tryd.ntmps58
  iterate 3 (try go_wp2_with (first | (go_at_call 50; (with_reducible refine (nat_cut.calls k (fun k_ => k_ < w.heap.size) _ _ l0 t434 _ ?side1 A3.out).mono ?_); (case side1 => exact Kd.V_mk HC0.out (Kd.F_below (Kd.C_F (Kd.heap_int .u32) HR0.out) (bw_ HB.out))); rintro e w6 ⟨v435, rfl, ho0, hb⟩; have HO436 := Aside0.mk (Kd.V_lower (Kd.V_mono (ok' := fun k_ => True) ho0 (fun k_ hk_ => trivial)) (below_size (bw_ HB.out))); replace HB := bq_ HB hb; (try clear hb); (try clear hb2); (try clear hk); (try clear hi); (try clear ho0)) | (go_at_call 50; (with_reducible refine (nat_cut.calls k (fun k_ => k_ < w.heap.size) _ _ l1 t437 _ ?side1 A4.out).mono ?_); (case side1 => exact Kd.V_mk HC1.out (Kd.F_below (Kd.C_F (Kd.heap_int .u32) HR1.out) (bw_ HB.out))); rintro e w7 ⟨v438, rfl, ho0, hb⟩; have n0_ := Aside0.mk (Kd.V_below (by (with_reducible repeat (first | apply Kd.V_alloc | apply Kd.V_drewN | apply Kd.V_drew)); exact HO436.out) hb); have n1_ := Aside0.mk (Kd.V_lower (Kd.V_mono (ok' := fun k_ => True) ho0 (fun k_ hk_ => trivial)) (below_size (bw_ HB.out))); have n2_ := bq_ HB hb; clear HO436; clear HB; have HO436 := n0_; have HO439 := n1_; have HB := n2_; clear n0_ n1_ n2_; (try clear hb); (try clear hb2); (try clear hk); (try clear hi); (try clear ho0); obtain ⟨Ao8, co8, eo8⟩ := Kd.V_slice HO436.out; subst eo8; obtain ⟨Ao9, co9, eo9⟩ := Kd.V_slice HO439.out; subst eo9)); try (go_quiet (fail)))
  go_ret
  exact ⟨rf_, bw_ HB.out⟩
 ·rw [if_neg c5] at H
  have c5b0 : decide ((t434.length : Int) < (t437.length : Int)) = false := decide_eq_false c5
  have c5b1 : decide (t434.length < t437.length) = false := decide_eq_false (fun h => c5 (Int.ofNat_lt.mpr h))
  clear c5
  by_cases c10 : (t434.length : Int) > (t437.length : Int)
  ·rw [if_pos c10] at H
   have c10b0 : decide ((t437.length : Int) < (t434.length : Int)) = true := decide_eq_true c10
   have c10b1 : decide (t437.length < t434.length) = true := decide_eq_true (Int.ofNat_lt.mp c10)
   clear c10
   obtain rfl := Option.some.inj H
   go_enter Tryd.func58, Tryd.ntmps58
   iterate 3 (try go_wp2_with (first | (go_at_call 50; (with_reducible refine (nat_cut.calls k (fun k_ => k_ < w.heap.size) _ _ l0 t434 _ ?side1 A3.out).mono ?_); (case side1 => exact Kd.V_mk HC0.out (Kd.F_below (Kd.C_F (Kd.heap_int .u32) HR0.out) (bw_ HB.out))); rintro e w11 ⟨v435, rfl, ho0, hb⟩; have HO436 := Aside0.mk (Kd.V_lower (Kd.V_mono (ok' := fun k_ => True) ho0 (fun k_ hk_ => trivial)) (below_size (bw_ HB.out))); replace HB := bq_ HB hb; (try clear hb); (try clear hb2); (try clear hk); (try clear hi); (try clear ho0)) | (go_at_call 50; (with_reducible refine (nat_cut.calls k (fun k_ => k_ < w.heap.size) _ _ l1 t437 _ ?side1 A4.out).mono ?_); (case side1 => exact Kd.V_mk HC1.out (Kd.F_below (Kd.C_F (Kd.heap_int .u32) HR1.out) (bw_ HB.out))); rintro e w12 ⟨v438, rfl, ho0, hb⟩; have n0_ := Aside0.mk (Kd.V_below (by (with_reducible repeat (first | apply Kd.V_alloc | apply Kd.V_drewN | apply Kd.V_drew)); exact HO436.out) hb); have n1_ := Aside0.mk (Kd.V_lower (Kd.V_mono (ok' := fun k_ => True) ho0 (fun k_ hk_ => trivial)) (below_size (bw_ HB.out))); have n2_ := bq_ HB hb; clear HO436; clear HB; have HO436 := n0_; have HO439 := n1_; have HB := n2_; clear n0_ n1_ n2_; (try clear hb); (try clear hb2); (try clear hk); (try clear hi); (try clear ho0); obtain ⟨Ao13, co13, eo13⟩ := Kd.V_slice HO436.out; subst eo13; obtain ⟨Ao14, co14, eo14⟩ := Kd.V_slice HO439.out; subst eo14)); try (go_quiet (fail)))
   go_ret
   exact ⟨rf_, bw_ HB.out⟩
  ·rw [if_neg c10] at H
   have c10b0 : decide ((t437.length : Int) < (t434.length : Int)) = false := decide_eq_false c10
   have c10b1 : decide (t437.length < t434.length) = false := decide_eq_false (fun h => c10 (Int.ofNat_lt.mpr h))
   clear c10
   have H' := Aside0.mk H
   clear H
   go_enter Tryd.func58, Tryd.ntmps58
   iterate 3 (try go_wp2_with (first | (go_at_call 50; (with_reducible refine (nat_cut.calls k (fun k_ => k_ < w.heap.size) _ _ l0 t434 _ ?side1 A3.out).mono ?_); (case side1 => exact Kd.V_mk HC0.out (Kd.F_below (Kd.C_F (Kd.heap_int .u32) HR0.out) (bw_ HB.out))); rintro e w15 ⟨v435, rfl, ho0, hb⟩; have HO436 := Aside0.mk (Kd.V_lower (Kd.V_mono (ok' := fun k_ => True) ho0 (fun k_ hk_ => trivial)) (below_size (bw_ HB.out))); replace HB := bq_ HB hb; (try clear hb); (try clear hb2); (try clear hk); (try clear hi); (try clear ho0)) | (go_at_call 50; (with_reducible refine (nat_cut.calls k (fun k_ => k_ < w.heap.size) _ _ l1 t437 _ ?side1 A4.out).mono ?_); (case side1 => exact Kd.V_mk HC1.out (Kd.F_below (Kd.C_F (Kd.heap_int .u32) HR1.out) (bw_ HB.out))); rintro e w16 ⟨v438, rfl, ho0, hb⟩; have n0_ := Aside0.mk (Kd.V_below (by (with_reducible repeat (first | apply Kd.V_alloc | apply Kd.V_drewN | apply Kd.V_drew)); exact HO436.out) hb); have n1_ := Aside0.mk (Kd.V_lower (Kd.V_mono (ok' := fun k_ => True) ho0 (fun k_ hk_ => trivial)) (below_size (bw_ HB.out))); have n2_ := bq_ HB hb; clear HO436; clear HB; have HO436 := n0_; have HO439 := n1_; have HB := n2_; clear n0_ n1_ n2_; (try clear hb); (try clear hb2); (try clear hk); (try clear hi); (try clear ho0); obtain ⟨Ao17, co17, eo17⟩ := Kd.V_slice HO436.out; subst eo17; obtain ⟨Ao18, co18, eo18⟩ := Kd.V_slice HO439.out; subst eo18)); try (go_quiet (fail)))
   go_loopg [25] k (fun kq v25 w' => ∃ (x25_1 : Int), v25 = .int .i64 x25_1 ∧ Aside0 (nat_Cmp.l0 kq t434 t437 (t434.length : Int) x25_1 = some r) ∧ Aside0 (kq ≤ k) ∧ Aside0 (Kd.V (Kd.int .u32) 44 w' w.heap.size (fun _ => True) (.slice Ao17 t434.length co17) t434) ∧ Aside0 (Kd.V (Kd.int .u32) 44 w' w.heap.size (fun _ => True) (.slice Ao18 t437.length co18) t437) ∧ Aside0 (Below w.heap.size w w'))
   case atStart => exact ⟨(0), (by first | rfl | (simp; done) | (simp [*]; done)), H', ⟨Nat.le_refl _⟩, ⟨by (with_reducible repeat (first | apply Kd.V_alloc | apply Kd.V_drewN | apply Kd.V_drew)); exact HO436.out⟩, ⟨by (with_reducible repeat (first | apply Kd.V_alloc | apply Kd.V_drewN | apply Kd.V_drew)); exact HO439.out⟩, ⟨bw_ HB.out⟩⟩
   case round =>
    clear H'
    try clear c1
    try clear p2
    try clear c5
    try clear c5b0
    try clear c5b1
    try clear c10
    try clear c10b0
    try clear c10b1
    obtain ⟨x25_1, rfl, HA, HK1, HO_0, HO_1, HB⟩ := hrel
    cases gk with
    | zero => exact absurd HA.out (by simp [nat_Cmp.l0])
    | succ k1 =>
     have H := HA.out
     clear HA
     simp only [nat_Cmp.l0] at H
     by_cases c19 : x25_1 < (t434.length : Int)
     ·rw [if_pos c19] at H
      have c19b0 : decide (x25_1 < (t434.length : Int)) = true := decide_eq_true c19
      clear c19
      obtain ⟨ji20, hji20⟩ : ∃ j_ : Int, (wrap64 ((wrap64 ((t434.length : Int) - 1)) - x25_1)) = j_ := ⟨_, rfl⟩
      (first | rw [hji20] at H | simp only [hji20] at H)
      have hji20w : (IntKind.i64.wrap ((wrap64 ((t434.length : Int) - 1)) - x25_1)) = ji20 := (i64_w _).trans hji20
      by_cases c21 : 0 ≤ (ji20)
      ·rw [if_pos c21] at H
       have c21b0 : decide (0 ≤ (ji20)) = true := decide_eq_true c21
       clear c21
       by_cases c22 : (ji20) < (t434.length : Int)
       ·rw [if_pos c22] at H
        have c22b0 : decide ((ji20) < (t434.length : Int)) = true := decide_eq_true c22
        clear c22
        by_cases c23 : (ji20) < (t437.length : Int)
        ·rw [if_pos c23] at H
         have c23b0 : decide ((ji20) < (t437.length : Int)) = true := decide_eq_true c23
         clear c23
         by_cases c24 : (rd t434 (ji20)) < (rd t437 (ji20))
         ·rw [if_pos c24] at H
          have c24b0 : decide ((rd t434 (ji20)) < (rd t437 (ji20))) = true := decide_eq_true c24
          clear c24
          obtain rfl := Option.some.inj H
          have p440 : 0 ≤ ((ji20) : Int) := of_decide_eq_true (by first | (with_reducible assumption) | assumption)
          have q440 : (ji20) < (t434.length : Int) := of_decide_eq_true (by first | (with_reducible assumption) | assumption)
          obtain ⟨ad440, e440, hx440_0⟩ := Kd.at_int (Kd.V_reads' HO_0.out).2.2 (ji20) p440 q440
          cases e440
          replace p440 := eq_true p440
          replace q440 := eq_true q440
          have p441 : 0 ≤ ((ji20) : Int) := of_decide_eq_true (by first | (with_reducible assumption) | assumption)
          have q441 : (ji20) < (t437.length : Int) := of_decide_eq_true (by first | (with_reducible assumption) | assumption)
          obtain ⟨ad441, e441, hx441_0⟩ := Kd.at_int (Kd.V_reads' HO_1.out).2.2 (ji20) p441 q441
          cases e441
          replace p441 := eq_true p441
          replace q441 := eq_true q441
          go_wp2
          repeat (go_quiet (fail); try go_wp2)
          go_ret
          exact ⟨by first | rfl | (simp [errW_none, errW_some] <;> rfl) | (simp only [← hji20]; first | rfl | (simp [errW_none, errW_some] <;> rfl)) | (simp [*, errW_none, errW_some] <;> rfl), bw_ HB.out⟩
         ·rw [if_neg c24] at H
          have c24b0 : decide ((rd t434 (ji20)) < (rd t437 (ji20))) = false := decide_eq_false c24
          clear c24
          by_cases c25 : (rd t434 (ji20)) > (rd t437 (ji20))
          ·rw [if_pos c25] at H
           have c25b0 : decide ((rd t437 (ji20)) < (rd t434 (ji20))) = true := decide_eq_true c25
           clear c25
           obtain rfl := Option.some.inj H
           have p440 : 0 ≤ ((ji20) : Int) := of_decide_eq_true (by first | (with_reducible assumption) | assumption)
           have q440 : (ji20) < (t434.length : Int) := of_decide_eq_true (by first | (with_reducible assumption) | assumption)
           obtain ⟨ad440, e440, hx440_0⟩ := Kd.at_int (Kd.V_reads' HO_0.out).2.2 (ji20) p440 q440
           cases e440
           replace p440 := eq_true p440
           replace q440 := eq_true q440
           have p441 : 0 ≤ ((ji20) : Int) := of_decide_eq_true (by first | (with_reducible assumption) | assumption)
           have q441 : (ji20) < (t437.length : Int) := of_decide_eq_true (by first | (with_reducible assumption) | assumption)
           obtain ⟨ad441, e441, hx441_0⟩ := Kd.at_int (Kd.V_reads' HO_1.out).2.2 (ji20) p441 q441
           cases e441
           replace p441 := eq_true p441
           replace q441 := eq_true q441
           have p442 : 0 ≤ ((ji20) : Int) := of_decide_eq_true (by first | (with_reducible assumption) | assumption)
           have q442 : (ji20) < (t434.length : Int) := of_decide_eq_true (by first | (with_reducible assumption) | assumption)
           obtain ⟨ad442, e442, hx442_0⟩ := Kd.at_int (Kd.V_reads' HO_0.out).2.2 (ji20) p442 q442
           obtain rfl : ad440 = ad442 := (by injection e442)
           replace p442 := eq_true p442
           replace q442 := eq_true q442
           have p443 : 0 ≤ ((ji20) : Int) := of_decide_eq_true (by first | (with_reducible assumption) | assumption)
           have q443 : (ji20) < (t437.length : Int) := of_decide_eq_true (by first | (with_reducible assumption) | assumption)
           obtain ⟨ad443, e443, hx443_0⟩ := Kd.at_int (Kd.V_reads' HO_1.out).2.2 (ji20) p443 q443
           obtain rfl : ad441 = ad443 := (by injection e443)
           replace p443 := eq_true p443
           replace q443 := eq_true q443
           go_wp2
           repeat (go_quiet (fail); try go_wp2)
           go_ret
           exact ⟨by first | rfl | (simp [errW_none, errW_some] <;> rfl) | (simp only [← hji20]; first | rfl | (simp [errW_none, errW_some] <;> rfl)) | (simp [*, errW_none, errW_some] <;> rfl), bw_ HB.out⟩
          ·rw [if_neg c25] at H
           have c25b0 : decide ((rd t437 (ji20)) < (rd t434 (ji20))) = false := decide_eq_false c25
           clear c25
           have H' := Aside0.mk H
           clear H
           have p440 : 0 ≤ ((ji20) : Int) := of_decide_eq_true (by first | (with_reducible assumption) | assumption)
           have q440 : (ji20) < (t434.length : Int) := of_decide_eq_true (by first | (with_reducible assumption) | assumption)
           obtain ⟨ad440, e440, hx440_0⟩ := Kd.at_int (Kd.V_reads' HO_0.out).2.2 (ji20) p440 q440
           cases e440
           replace p440 := eq_true p440
           replace q440 := eq_true q440
           have p441 : 0 ≤ ((ji20) : Int) := of_decide_eq_true (by first | (with_reducible assumption) | assumption)
           have q441 : (ji20) < (t437.length : Int) := of_decide_eq_true (by first | (with_reducible assumption) | assumption)
           obtain ⟨ad441, e441, hx441_0⟩ := Kd.at_int (Kd.V_reads' HO_1.out).2.2 (ji20) p441 q441
           cases e441
           replace p441 := eq_true p441
           replace q441 := eq_true q441
           have p442 : 0 ≤ ((ji20) : Int) := of_decide_eq_true (by first | (with_reducible assumption) | assumption)
           have q442 : (ji20) < (t434.length : Int) := of_decide_eq_true (by first | (with_reducible assumption) | assumption)
           obtain ⟨ad442, e442, hx442_0⟩ := Kd.at_int (Kd.V_reads' HO_0.out).2.2 (ji20) p442 q442
           obtain rfl : ad440 = ad442 := (by injection e442)
           replace p442 := eq_true p442
           replace q442 := eq_true q442
           have p443 : 0 ≤ ((ji20) : Int) := of_decide_eq_true (by first | (with_reducible assumption) | assumption)
           have q443 : (ji20) < (t437.length : Int) := of_decide_eq_true (by first | (with_reducible assumption) | assumption)
           obtain ⟨ad443, e443, hx443_0⟩ := Kd.at_int (Kd.V_reads' HO_1.out).2.2 (ji20) p443 q443
           obtain rfl : ad441 = ad443 := (by injection e443)
           replace p443 := eq_true p443
           replace q443 := eq_true q443
           go_wp2
           repeat (go_quiet (fail); try go_wp2)
           go_roundg k1
           case measure => have := HK1.out; omega
           case rel => exact ⟨(wrap64 (x25_1 + 1)), (by first | rfl | (simp; done) | (simp [*]; done)), H', ⟨by have := HK1.out; omega⟩, ⟨by (with_reducible repeat (first | apply Kd.V_alloc | apply Kd.V_drewN | apply Kd.V_drew)); exact HO_0.out⟩, ⟨by (with_reducible repeat (first | apply Kd.V_alloc | apply Kd.V_drewN | apply Kd.V_drew)); exact HO_1.out⟩, ⟨bw_ HB.out⟩⟩
        ·rw [if_neg c23] at H
         exact absurd H (by simp)
       ·rw [if_neg c22] at H
        exact absurd H (by simp)
      ·rw [if_neg c21] at H
       exact absurd H (by simp)
     ·rw [if_neg c19] at H
      have c19b0 : decide (x25_1 < (t434.length : Int)) = false := decide_eq_false c19
      clear c19
      obtain rfl := Option.some.inj H
      go_wp2
      repeat (go_quiet (fail); try go_wp2)
      go_ret
      exact ⟨rf_, bw_ HB.out⟩

/-! ### bits_Sub32: function 59 -/
set_option maxHeartbeats 8000000 in
set_option maxRecDepth 100000 in
theorem bits_Sub32.calls (a0 : Int) (a1 : Int) (a2 : Int) (r1 : Int) (r2 : Int) (w : World) (h : bits_Sub32.f a0 a1 a2 = some (r1, r2)) :
  Calls Tryd.prog 59 #[.int .u32 a0, .int .u32 a1, .int .u32 a2] w fun e w' => e = .returned (.tuple #[.int .u32 r1, .int .u32 r2]) ∧ Drawn0 w w' := by
 have H : (some ((((a0 - a1) % 4294967296) - a2) % 4294967296, (Go.bits .or .u32 (Go.bits .and .u32 (Go.bits .xor .u32 4294967295 a0) a1) (Go.bits .and .u32 (Go.bits .xor .u32 4294967295 (Go.bits .xor .u32 a0 a1)) ((((a0 - a1) % 4294967296) - a2) % 4294967296))) / 2147483648)) = some (r1, r2) := h
 clear h
 simp only [Option.some.injEq, Prod.mk.injEq] at H
 obtain ⟨rfl, rfl⟩ := H
 go_enter Tryd.func59, Tryd.ntmps59
 go_wp2
 go_ret2
 exact ⟨by first | rfl | (simp; done) | (simp [*]; done), by repeat (first | exact Drawn0.refl _ | apply Drawn0.step)⟩

/-! ### nat_Sub: function 53 -/
set_option maxHeartbeats 8000000 in
set_option maxRecDepth 100000 in
theorem nat_Sub.calls (k : Nat) (A0 : Option Addr) (c0 : Nat) (l0 : List Int) (A1 : Option Addr) (c1 : Nat) (l1 : List Int) (r1 : List Int) (r2 : Bool) (w : World) (hr0 : Kd.C (Kd.int .u32) w A0 l0.length l0) (hc0 : l0.length ≤ c0) (hr1 : Kd.C (Kd.int .u32) w A1 l1.length l1) (hc1 : l1.length ≤ c1) (h : nat_Sub.f k l0 l1 = some (r1, r2)) :
  Calls Tryd.prog 53 #[.slice A0 l0.length c0, .slice A1 l1.length c1] w fun e w' => ∃ v0_ : Value, e = .returned (.tuple #[v0_, .bool r2]) ∧ Kd.R (Kd.int .u32) 44 w' w.heap.size (fun _ => True) v0_ r1 ∧ Below w.heap.size w w' := by
 have HR0 := Aside0.mk hr0
 have HC0 := Aside0.mk hc0
 clear hr0 hc0
 have HR1 := Aside0.mk hr1
 have HC1 := Aside0.mk hc1
 clear hr1 hc1
 have HB := Aside0.mk (Below.refl w.heap.size w)
 have H : ((nat_cut.f k l0).bind fun t444 => ((nat_cut.f k l1).bind fun t447 => ((nat_Cmp.f k t444 t447).bind fun t450 => (if t450 < 0 then (some (([] : List Int), false)) else (if 0 ≤ (t444.length : Int) then (if ((t444.length : Int) : Int).toNat ≤ 70368744177664 then (nat_Sub.l0 k t444 t447 (List.replicate ((t444.length : Int) : Int).toNat 0) 0 (t444.length : Int) 0) else (none)) else (none)))))) = some (r1, r2) := h
 clear h
 replace H := Option.bind_eq_some_iff.mp H
 obtain ⟨t444, A30, H⟩ := H
 (try dsimp only at H)
 have A3 := Aside0.mk A30
 clear A30
 replace H := Option.bind_eq_some_iff.mp H
 obtain ⟨t447, A40, H⟩ := H
 (try dsimp only at H)
 have A4 := Aside0.mk A40
 clear A40
 replace H := Option.bind_eq_some_iff.mp H
 obtain ⟨t450, A50, H⟩ := H
 (try dsimp only at H)
 have A5 := Aside0.mk A50
 clear A50
 by_cases c6 : t450 < 0
 ·rw [if_pos c6] at H
  have c6b0 : decide (t450 < 0) = true := decide_eq_true c6
  clear c6
  simp only [Option.some.injEq, Prod.mk.injEq] at H
  obtain ⟨rfl, rfl⟩ := H
  go_enter Tryd.func53, Tryd.ntmps53
  go_wp2_with (first | ((with_reducible refine gate_callee (f := 50) rfl ?_); refine gl_ (some 11) Tryd.func50 #[.slice A0 l0.length c0] ?_; (with_reducible refine (nat_cut.calls k (fun k_ => k_ < w.heap.size) _ _ l0 t444 _ ?side1 A3.out).mono ?_); (case side1 => exact Kd.V_mk HC0.out (Kd.F_below (Kd.C_F (Kd.heap_int .u32) HR0.out) (bw_ HB.out))); rintro e w7 ⟨v445, rfl, ho0, hb⟩; refine ⟨_, rfl, ?_⟩; have HO446 := Aside0.mk (Kd.V_lower (Kd.V_mono (ok' := fun k_ => True) ho0 (fun k_ hk_ => trivial)) (below_size (bw_ HB.out))); replace HB := bq_ HB hb; (try clear hb); (try clear hb2); (try clear hk); (try clear hi); (try clear ho0)) | ((with_reducible refine gate_callee (f := 50) rfl ?_); refine gl_ (some 13) Tryd.func50 #[.slice A1 l1.length c1] ?_; (with_reducible refine (nat_cut.calls k (fun k_ => k_ < w.heap.size) _ _ l1 t447 _ ?side1 A4.out).mono ?_); (case side1 => exact Kd.V_mk HC1.out (Kd.F_below (Kd.C_F (Kd.heap_int .u32) HR1.out) (bw_ HB.out))); rintro e w8 ⟨v448, rfl, ho0, hb⟩; refine ⟨_, rfl, ?_⟩; have n0_ := Aside0.mk (Kd.V_below (by (with_reducible repeat (first | apply Kd.V_alloc | apply Kd.V_drewN | apply Kd.V_drew)); exact HO446.out) hb); have n1_ := Aside0.mk (Kd.V_lower (Kd.V_mono (ok' := fun k_ => True) ho0 (fun k_ hk_ => trivial)) (below_size (bw_ HB.out))); have n2_ := bq_ HB hb; clear HO446; clear HB; have HO446 := n0_; have HO449 := n1_; have HB := n2_; clear n0_ n1_ n2_; (try clear hb); (try clear hb2); (try clear hk); (try clear hi); (try clear ho0); obtain ⟨Ao9, co9, eo9⟩ := Kd.V_slice HO446.out; subst eo9; obtain ⟨Ao10, co10, eo10⟩ := Kd.V_slice HO449.out; subst eo10) | ((with_reducible refine gate_callee (f := 58) rfl ?_); refine gl_ (some 16) Tryd.func58 #[.slice Ao9 t444.length co9, .slice Ao10 t447.length co10] ?_; (with_reducible refine (nat_Cmp.calls k _ _ t444 _ _ t447 t450 _ ?side1 ?side2 ?side3 ?side4 A5.out).mono ?_); (case side1 => exact kc_ (Kd.V_reads' HO446.out).2.2); (case side2 => exact (Kd.V_reads' HO446.out).2.1); (case side3 => exact kc_ (Kd.V_reads' HO449.out).2.2); (case side4 => exact (Kd.V_reads' HO449.out).2.1); rintro e w11 ⟨rfl, hb⟩; refine ⟨_, rfl, ?_⟩; have n0_ := Aside0.mk (Kd.V_below (by (with_reducible repeat (first | apply Kd.V_alloc | apply Kd.V_drewN | apply Kd.V_drew)); exact HO446.out) hb); have n1_ := Aside0.mk (Kd.V_below (by (with_reducible repeat (first | apply Kd.V_alloc | apply Kd.V_drewN | apply Kd.V_drew)); exact HO449.out) hb); have n2_ := bq_ HB hb; clear HO446; clear HO449; clear HB; have HO446 := n0_; have HO449 := n1_; have HB := n2_; clear n0_ n1_ n2_; (try clear hb); (try clear hb2); (try clear hk); (try clear hi)))
  go_ret2
  exact ⟨_, rf_, by first | exact Kd.R_nil _ _ _ _ _ | exact Kd.N_nil _ _ _ _ _ | exact Kd.V_nil _ _ _ _ _ | exact Kd.Q_nil _ _ _ _ _ | exact Kd.S_nil _ _ _ _ _, bw_ HB.out⟩
 ·rw [if_neg c6] at H
  have c6b0 : decide (t450 < 0) = false := decide_eq_false c6
  clear c6
  by_cases c12 : 0 ≤ (t444.length : Int)
  ·rw [if_pos c12] at H
   have c12b0 := eq_true c12
   have c12b1 : decide (0 ≤ (t444.length : Int)) = true := decide_eq_true c12
   clear c12
   by_cases c13 : ((t444.length : Int) : Int).toNat ≤ 70368744177664
   ·rw [if_pos c13] at H
    have c13b0 := eq_true c13
    have c13b1 : decide (((t444.length : Int) : Int).toNat ≤ 70368744177664) = true := decide_eq_true c13
    clear c13
    obtain ⟨y451, hy451⟩ : ∃ y_ : List Int, y_ = (List.replicate ((t444.length : Int) : Int).toNat 0) := ⟨_, rfl⟩
    replace H : (nat_Sub.l0 k t444 t447 y451 0 (t444.length : Int) 0) = some (r1, r2) := by first | (rw [hy451]; with_reducible exact H) | (have H2_ := (Option.bind_some _ _).symm.trans H; rw [hy451]; with_reducible exact H2_) | (have H2_ := (Option.bind_some _ _).symm.trans H; with_reducible exact H2_) | with_reducible exact H | (rw [hy451]; exact H) | exact H
    have Ny451 := Aside0.mk hy451
    clear hy451
    have H' := Aside0.mk H
    clear H
    go_enter Tryd.func53, Tryd.ntmps53
    go_wp2_with (first | ((with_reducible refine gate_callee (f := 50) rfl ?_); refine gl_ (some 11) Tryd.func50 #[.slice A0 l0.length c0] ?_; (with_reducible refine (nat_cut.calls k (fun k_ => k_ < w.heap.size) _ _ l0 t444 _ ?side1 A3.out).mono ?_); (case side1 => exact Kd.V_mk HC0.out (Kd.F_below (Kd.C_F (Kd.heap_int .u32) HR0.out) (bw_ HB.out))); rintro e w14 ⟨v445, rfl, ho0, hb⟩; refine ⟨_, rfl, ?_⟩; have HO446 := Aside0.mk (Kd.V_lower (Kd.V_mono (ok' := fun k_ => True) ho0 (fun k_ hk_ => trivial)) (below_size (bw_ HB.out))); replace HB := bq_ HB hb; (try clear hb); (try clear hb2); (try clear hk); (try clear hi); (try clear ho0)) | ((with_reducible refine gate_callee (f := 50) rfl ?_); refine gl_ (some 13) Tryd.func50 #[.slice A1 l1.length c1] ?_; (with_reducible refine (nat_cut.calls k (fun k_ => k_ < w.heap.size) _ _ l1 t447 _ ?side1 A4.out).mono ?_); (case side1 => exact Kd.V_mk HC1.out (Kd.F_below (Kd.C_F (Kd.heap_int .u32) HR1.out) (bw_ HB.out))); rintro e w15 ⟨v448, rfl, ho0, hb⟩; refine ⟨_, rfl, ?_⟩; have n0_ := Aside0.mk (Kd.V_below (by (with_reducible repeat (first | apply Kd.V_alloc | apply Kd.V_drewN | apply Kd.V_drew)); exact HO446.out) hb); have n1_ := Aside0.mk (Kd.V_lower (Kd.V_mono (ok' := fun k_ => True) ho0 (fun k_ hk_ => trivial)) (below_size (bw_ HB.out))); have n2_ := bq_ HB hb; clear HO446; clear HB; have HO446 := n0_; have HO449 := n1_; have HB := n2_; clear n0_ n1_ n2_; (try clear hb); (try clear hb2); (try clear hk); (try clear hi); (try clear ho0); obtain ⟨Ao16, co16, eo16⟩ := Kd.V_slice HO446.out; subst eo16; obtain ⟨Ao17, co17, eo17⟩ := Kd.V_slice HO449.out; subst eo17) | ((with_reducible refine gate_callee (f := 58) rfl ?_); refine gl_ (some 16) Tryd.func58 #[.slice Ao16 t444.length co16, .slice Ao17 t447.length co17] ?_; (with_reducible refine (nat_Cmp.calls k _ _ t444 _ _ t447 t450 _ ?side1 ?side2 ?side3 ?side4 A5.out).mono ?_); (case side1 => exact kc_ (Kd.V_reads' HO446.out).2.2); (case side2 => exact (Kd.V_reads' HO446.out).2.1); (case side3 => exact kc_ (Kd.V_reads' HO449.out).2.2); (case side4 => exact (Kd.V_reads' HO449.out).2.1); rintro e w18 ⟨rfl, hb⟩; refine ⟨_, rfl, ?_⟩; have n0_ := Aside0.mk (Kd.V_below (by (with_reducible repeat (first | apply Kd.V_alloc | apply Kd.V_drewN | apply Kd.V_drew)); exact HO446.out) hb); have n1_ := Aside0.mk (Kd.V_below (by (with_reducible repeat (first | apply Kd.V_alloc | apply Kd.V_drewN | apply Kd.V_drew)); exact HO449.out) hb); have n2_ := bq_ HB hb; clear HO446; clear HO449; clear HB; have HO446 := n0_; have HO449 := n1_; have HB := n2_; clear n0_ n1_ n2_; (try clear hb); (try clear hb2); (try clear hk); (try clear hi)) | ((with_reducible refine gate_dst (N := 20) rfl ?_); refine Kd.R_make (Kd.int .u32) _ 44 rfl (N := 20) rfl 27 _ _ rfl (t444.length : Int) rfl rfl Tryd.underlying27 (.int .u32 0) 4 info44 rfl (by decide) (by omega) 0 (ok := fun _ => True) (okp := fun _ => True) rfl (fun _ hk => hk) trivial (of_decide_eq_true (by first | (with_reducible assumption) | assumption)) (Nat.le_trans (Nat.mul_le_mul_right _ (of_decide_eq_true (by first | (with_reducible assumption) | assumption) : (t444.length : Int).toNat ≤ 70368744177664)) (by omega)) (Below.refl _ _) (Nat.le_refl _) ?_; intro v452 w19 ho20 hb hg_ hnew_; clear hg_ hnew_; (first | rw [← Ny451.out] at ho20 | (simp only [Int.reduceToNat] at ho20; rw [← Ny451.out] at ho20)); have n0_ := Aside0.mk (Kd.V_elder' (by (with_reducible repeat (first | apply Kd.V_alloc | apply Kd.V_drewN | apply Kd.V_drew)); exact HO446.out) (Kd.R_base ho20) hb); have n1_ := Aside0.mk (Kd.V_elder' (by (with_reducible repeat (first | apply Kd.V_alloc | apply Kd.V_drewN | apply Kd.V_drew)); exact HO449.out) (Kd.R_base ho20) hb); have n2_ := Aside0.mk (Kd.R_lower ho20 (below_size (bw_ HB.out))); have n3_ := bq_ HB hb; clear HO446; clear HO449; clear HB; have HO446 := n0_; have HO449 := n1_; have HO453 := n2_; have HB := n3_; clear n0_ n1_ n2_ n3_; clear hb ho20))
    go_loopg [7, 23] k (fun kq v7 v23 w' => ∃ (x6_1 : List Int) (x7_1 : Int) (x23_1 : Int), v7 = .int .u32 x7_1 ∧ v23 = .int .i64 x23_1 ∧ Aside0 (nat_Sub.l0 kq t444 t447 x6_1 x7_1 (t444.length : Int) x23_1 = some (r1, r2)) ∧ Aside0 (kq ≤ k) ∧ Aside0 (Kd.V (Kd.int .u32) 44 w' w.heap.size (fun k_ => some k_ ≠ (v452 : Value).ownBlock) (.slice Ao16 t444.length co16) t444) ∧ Aside0 (Kd.V (Kd.int .u32) 44 w' w.heap.size (fun k_ => some k_ ≠ (v452 : Value).ownBlock) (.slice Ao17 t447.length co17) t447) ∧ Aside0 (Kd.R (Kd.int .u32) 44 w' w.heap.size (fun _ => True) v452 x6_1) ∧ Aside0 (Below w.heap.size w w'))
    case atStart => exact ⟨(y451), (0), (0), (by first | rfl | (simp; done) | (simp [*]; done)), (by first | rfl | (simp; done) | (simp [*]; done)), H', ⟨Nat.le_refl _⟩, ⟨by (with_reducible repeat (first | apply Kd.V_alloc | apply Kd.V_drewN | apply Kd.V_drew)); exact Kd.V_mono HO446.out (fun _ hk => hk.2)⟩, ⟨by (with_reducible repeat (first | apply Kd.V_alloc | apply Kd.V_drewN | apply Kd.V_drew)); exact Kd.V_mono HO449.out (fun _ hk => hk.2)⟩, ⟨by (with_reducible repeat (first | apply Kd.R_alloc | apply Kd.R_drewN | apply Kd.R_drew)); exact HO453.out⟩, ⟨bw_ HB.out⟩⟩
    case round =>
     clear H'
     try clear c1
     try clear p2
     try clear c5
     try clear c6
     try clear c6b0
     try clear c12
     try clear c12b0
     try clear c12b1
     try clear c13
     try clear c13b0
     try clear c13b1
     obtain ⟨x6_1, x7_1, x23_1, rfl, rfl, HA, HK1, HO_0, HO_1, HO_6, HB⟩ := hrel
     cases gk with
     | zero => exact absurd HA.out (by simp [nat_Sub.l0])
     | succ k1 =>
      have H := HA.out
      clear HA
      simp only [nat_Sub.l0] at H
      by_cases c21 : x23_1 < (t444.length : Int)
      ·rw [if_pos c21] at H
       have c21b0 : decide (x23_1 < (t444.length : Int)) = true := decide_eq_true c21
       clear c21
       by_cases c22 : x23_1 < (t447.length : Int)
       ·rw [if_pos c22] at H
        have c22b0 : decide (x23_1 < (t447.length : Int)) = true := decide_eq_true c22
        clear c22
        by_cases c23 : 0 ≤ x23_1
        ·rw [if_pos c23] at H
         have c23b0 : decide (0 ≤ x23_1) = true := decide_eq_true c23
         clear c23
         by_cases c24 : x23_1 < (t444.length : Int)
         ·rw [if_pos c24] at H
          have c24b0 : decide (x23_1 < (t444.length : Int)) = true := decide_eq_true c24
          clear c24
          replace H := Option.bind_eq_some_iff.mp H
          obtain ⟨⟨t456, t457⟩, A250, H⟩ := H
          (try dsimp only at H)
          have A25 := Aside0.mk A250
          clear A250
          by_cases c26 : x23_1 < (x6_1.length : Int)
          ·rw [if_pos c26] at H
           have c26b0 : decide (x23_1 < (x6_1.length : Int)) = true := decide_eq_true c26
           clear c26
           obtain ⟨y458, hy458⟩ : ∃ y_ : List Int, y_ = (x6_1.set (x23_1 : Int).toNat t456) := ⟨_, rfl⟩
           replace H : (nat_Sub.l0 k1 t444 t447 y458 t457 (t444.length : Int) (wrap64 (x23_1 + 1))) = some (r1, r2) := by first | (rw [hy458]; with_reducible exact H) | (have H2_ := (Option.bind_some _ _).symm.trans H; rw [hy458]; with_reducible exact H2_) | (have H2_ := (Option.bind_some _ _).symm.trans H; with_reducible exact H2_) | with_reducible exact H | (rw [hy458]; exact H) | exact H
           have Ny458 := Aside0.mk hy458
           clear hy458
           have H' := Aside0.mk H
           clear H
           have p454 : 0 ≤ (x23_1 : Int) := of_decide_eq_true (by first | (with_reducible assumption) | assumption)
           have q454 : x23_1 < (t447.length : Int) := of_decide_eq_true (by first | (with_reducible assumption) | assumption)
           obtain ⟨ad454, e454, hx454_0⟩ := Kd.at_int (Kd.V_reads' HO_1.out).2.2 x23_1 p454 q454
           cases e454
           replace p454 := eq_true p454
           replace q454 := eq_true q454
           have p455 : 0 ≤ (x23_1 : Int) := of_decide_eq_true (by first | (with_reducible assumption) | assumption)
           have q455 : x23_1 < (t444.length : Int) := of_decide_eq_true (by first | (with_reducible assumption) | assumption)
           obtain ⟨ad455, e455, hx455_0⟩ := Kd.at_int (Kd.V_reads' HO_0.out).2.2 x23_1 p455 q455
           cases e455
           replace p455 := eq_true p455
           replace q455 := eq_true q455
           go_wp2_with (first | ((with_reducible refine gate_callee (f := 59) rfl ?_); refine gl_ (some 43) Tryd.func59 #[.int .u32 (rd t444 x23_1), .int .u32 (rd t447 x23_1), .int .u32 x7_1] ?_; (with_reducible refine (bits_Sub32.calls (rd t444 x23_1) (rd t447 x23_1) x7_1 t456 t457 _ A25.out).mono ?_); rintro e w' ⟨rfl, ⟨nd, rfl⟩⟩; refine ⟨_, rfl, ?_⟩; (try (rw [drewN_self wr]; generalize hq_ : World.drewN wr _ = wr; have n0_ : Aside0 (Kd.V (Kd.int .u32) 44 wr w.heap.size (fun k_ => some k_ ≠ (v452 : Value).ownBlock) (.slice (some ad455) t444.length co16) t444) := ⟨by rw [← hq_]; exact (by (with_reducible repeat (first | apply Kd.V_alloc | apply Kd.V_drewN | apply Kd.V_drew)); exact HO_0.out)⟩; have n1_ : Aside0 (Kd.V (Kd.int .u32) 44 wr w.heap.size (fun k_ => some k_ ≠ (v452 : Value).ownBlock) (.slice (some ad454) t447.length co17) t447) := ⟨by rw [← hq_]; exact (by (with_reducible repeat (first | apply Kd.V_alloc | apply Kd.V_drewN | apply Kd.V_drew)); exact HO_1.out)⟩; have n2_ : Aside0 (Kd.R (Kd.int .u32) 44 wr w.heap.size (fun _ => True) v452 x6_1) := ⟨by rw [← hq_]; exact (kr_ HO_6.out)⟩; have n3_ : Aside0 (Below w.heap.size w wr) := ⟨by rw [← hq_]; exact (bw_ HB.out)⟩; clear HO_0 HO_1 HO_6 HB hq_; have HO_0 := n0_; have HO_1 := n1_; have HO_6 := n2_; have HB := n3_; clear n0_ n1_ n2_ n3_)); have p27 : 0 ≤ (x23_1 : Int) := of_decide_eq_true (by first | (with_reducible assumption) | assumption); have q27 : (x23_1 : Int) < ((x6_1.length : Int) : Int) := of_decide_eq_true (by first | (with_reducible assumption) | assumption); obtain ⟨go27, co27, eo27, gb27, gl27, cl27, HG27⟩ := Kd.R_form HO_6.out (by omega); (first | cases eo27 | (injection eo27 with ea_ en_ ec_; (first | subst ea_ | (injection ea_ with ea_; subst ea_)); subst ec_; clear en_)); have GB27 := Aside0.mk gb27; have GG27 := Aside0.mk HG27; clear gb27 gl27 HG27; obtain ⟨hx27_0, hf27_0⟩ := Kd.R_celln 0 HO_6.out (x23_1 : Int) p27 q27; replace p27 := eq_true p27; replace q27 := eq_true q27; obtain ⟨hy28_, hz28_⟩ := Kd.R_celln 0 HO_6.out (x23_1 : Int) (of_decide_eq_true (by first | (with_reducible assumption) | assumption)) (of_decide_eq_true (by first | (with_reducible assumption) | assumption)); have HP28 := Kd.R_putg HO_6.out (x23_1 : Int) t456) | ((with_reducible refine gate_store (t := 44) (p := 46) rfl ?_); refine store_event (t := 44) (p := 46) (v := ?vo_w29) (w1 := (wr.setCell ⟨go27, (x23_1 : Int).toNat, none⟩ (.int .u32 t456))) ?hg ?ho ?hn ?hr ?_; (case ho => rfl); (case hg => rfl); (case hn => rfl); (case hr => first | (go_simp; done) | (go_simp; rfl)); intro w29 hw; have hg : wr.grownBy w29 (some go27) := (by rw [hw]; exact HP28.2); have hp_ : Kd.R (Kd.int .u32) 44 w29 w.heap.size (fun _ => True) (.slice (some ⟨go27, 0, none⟩) x6_1.length co27) y458 := (by rw [hw, Ny458.out]; exact HP28.1); clear HP28; have n0_ := Aside0.mk (Kd.V_afterv (v := (.slice (some ⟨go27, 0, none⟩) x6_1.length co27)) (v1 := (.slice (some ⟨go27, 0, none⟩) x6_1.length co27)) (ok := (fun _ => True)) (by (with_reducible repeat (first | apply Kd.V_alloc | apply Kd.V_drewN | apply Kd.V_drew)); exact Kd.V_mono HO_0.out (fun _ hk => by first | exact ⟨trivial, hk⟩ | (simp only [ob_map] at hk ⊢; exact ⟨trivial, hk⟩))) hg (.inl rfl)); have n1_ := Aside0.mk (Kd.V_afterv (v := (.slice (some ⟨go27, 0, none⟩) x6_1.length co27)) (v1 := (.slice (some ⟨go27, 0, none⟩) x6_1.length co27)) (ok := (fun _ => True)) (by (with_reducible repeat (first | apply Kd.V_alloc | apply Kd.V_drewN | apply Kd.V_drew)); exact Kd.V_mono HO_1.out (fun _ hk => by first | exact ⟨trivial, hk⟩ | (simp only [ob_map] at hk ⊢; exact ⟨trivial, hk⟩))) hg (.inl rfl)); have n2_ := Aside0.mk (hp_); have n3_ := Aside0.mk ((by rw [hw]; exact below_set (HB.out) GB27.out : Below w.heap.size w w29)); clear HO_0; clear HO_1; clear HO_6; clear HB; have HO_0 := n0_; have HO_1 := n1_; have HO_6 := n2_; have HB := n3_; clear n0_ n1_ n2_ n3_; clear hg hw hp_))
           go_roundg k1
           case measure => have := HK1.out; omega
           case rel => exact ⟨(y458), (t457), (wrap64 (x23_1 + 1)), (by first | rfl | (simp; done) | (simp [*]; done)), (by first | rfl | (simp; done) | (simp [*]; done)), H', ⟨by have := HK1.out; omega⟩, ⟨by (with_reducible repeat (first | apply Kd.V_alloc | apply Kd.V_drewN | apply Kd.V_drew)); exact Kd.V_mono HO_0.out (fun _ hk => hk.2)⟩, ⟨by (with_reducible repeat (first | apply Kd.V_alloc | apply Kd.V_drewN | apply Kd.V_drew)); exact Kd.V_mono HO_1.out (fun _ hk => hk.2)⟩, ⟨by (with_reducible repeat (first | apply Kd.R_alloc | apply Kd.R_drewN | apply Kd.R_drew)); exact HO_6.out⟩, ⟨bw_ HB.out⟩⟩
          ·rw [if_neg c26] at H
           exact absurd H (by simp)
         ·rw [if_neg c24] at H
          exact absurd H (by simp)
        ·rw [if_neg c23] at H
         exact absurd H (by simp)
       ·rw [if_neg c22] at H
        have c22b0 : decide (x23_1 < (t447.length : Int)) = false := decide_eq_false c22
        clear c22
        by_cases c30 : 0 ≤ x23_1
        ·rw [if_pos c30] at H
         have c30b0 : decide (0 ≤ x23_1) = true := decide_eq_true c30
         clear c30
         by_cases c31 : x23_1 < (t444.length : Int)
         ·rw [if_pos c31] at H
          have c31b0 : decide (x23_1 < (t444.length : Int)) = true := decide_eq_true c31
          clear c31
          replace H := Option.bind_eq_some_iff.mp H
          obtain ⟨⟨t460, t461⟩, A320, H⟩ := H
          (try dsimp only at H)
          have A32 := Aside0.mk A320
          clear A320
          by_cases c33 : x23_1 < (x6_1.length : Int)
          ·rw [if_pos c33] at H
           have c33b0 : decide (x23_1 < (x6_1.length : Int)) = true := decide_eq_true c33
           clear c33
           obtain ⟨y462, hy462⟩ : ∃ y_ : List Int, y_ = (x6_1.set (x23_1 : Int).toNat t460) := ⟨_, rfl⟩
           replace H : (nat_Sub.l0 k1 t444 t447 y462 t461 (t444.length : Int) (wrap64 (x23_1 + 1))) = some (r1, r2) := by first | (rw [hy462]; with_reducible exact H) | (have H2_ := (Option.bind_some _ _).symm.trans H; rw [hy462]; with_reducible exact H2_) | (have H2_ := (Option.bind_some _ _).symm.trans H; with_reducible exact H2_) | with_reducible exact H | (rw [hy462]; exact H) | exact H
           have Ny462 := Aside0.mk hy462
           clear hy462
           have H' := Aside0.mk H
           clear H
           have p459 : 0 ≤ (x23_1 : Int) := of_decide_eq_true (by first | (with_reducible assumption) | assumption)
           have q459 : x23_1 < (t444.length : Int) := of_decide_eq_true (by first | (with_reducible assumption) | assumption)
           obtain ⟨ad459, e459, hx459_0⟩ := Kd.at_int (Kd.V_reads' HO_0.out).2.2 x23_1 p459 q459
           cases e459
           replace p459 := eq_true p459
           replace q459 := eq_true q459
           go_wp2_with (first | ((with_reducible refine gate_callee (f := 59) rfl ?_); refine gl_ (some 43) Tryd.func59 #[.int .u32 (rd t444 x23_1), .int .u32 0, .int .u32 x7_1] ?_; (with_reducible refine (bits_Sub32.calls (rd t444 x23_1) 0 x7_1 t460 t461 _ A32.out).mono ?_); rintro e w' ⟨rfl, ⟨nd, rfl⟩⟩; refine ⟨_, rfl, ?_⟩; (try (rw [drewN_self wr]; generalize hq_ : World.drewN wr _ = wr; have n0_ : Aside0 (Kd.V (Kd.int .u32) 44 wr w.heap.size (fun k_ => some k_ ≠ (v452 : Value).ownBlock) (.slice (some ad459) t444.length co16) t444) := ⟨by rw [← hq_]; exact (by (with_reducible repeat (first | apply Kd.V_alloc | apply Kd.V_drewN | apply Kd.V_drew)); exact HO_0.out)⟩; have n1_ : Aside0 (Kd.V (Kd.int .u32) 44 wr w.heap.size (fun k_ => some k_ ≠ (v452 : Value).ownBlock) (.slice Ao17 t447.length co17) t447) := ⟨by rw [← hq_]; exact (by (with_reducible repeat (first | apply Kd.V_alloc | apply Kd.V_drewN | apply Kd.V_drew)); exact HO_1.out)⟩; have n2_ : Aside0 (Kd.R (Kd.int .u32) 44 wr w.heap.size (fun _ => True) v452 x6_1) := ⟨by rw [← hq_]; exact (kr_ HO_6.out)⟩; have n3_ : Aside0 (Below w.heap.size w wr) := ⟨by rw [← hq_]; exact (bw_ HB.out)⟩; clear HO_0 HO_1 HO_6 HB hq_; have HO_0 := n0_; have HO_1 := n1_; have HO_6 := n2_; have HB := n3_; clear n0_ n1_ n2_ n3_)); have p34 : 0 ≤ (x23_1 : Int) := of_decide_eq_true (by first | (with_reducible assumption) | assumption); have q34 : (x23_1 : Int) < ((x6_1.length : Int) : Int) := of_decide_eq_true (by first | (with_reducible assumption) | assumption); obtain ⟨go34, co34, eo34, gb34, gl34, cl34, HG34⟩ := Kd.R_form HO_6.out (by omega); (first | cases eo34 | (injection eo34 with ea_ en_ ec_; (first | subst ea_ | (injection ea_ with ea_; subst ea_)); subst ec_; clear en_)); have GB34 := Aside0.mk gb34; have GG34 := Aside0.mk HG34; clear gb34 gl34 HG34; obtain ⟨hx34_0, hf34_0⟩ := Kd.R_celln 0 HO_6.out (x23_1 : Int) p34 q34; replace p34 := eq_true p34; replace q34 := eq_true q34; obtain ⟨hy35_, hz35_⟩ := Kd.R_celln 0 HO_6.out (x23_1 : Int) (of_decide_eq_true (by first | (with_reducible assumption) | assumption)) (of_decide_eq_true (by first | (with_reducible assumption) | assumption)); have HP35 := Kd.R_putg HO_6.out (x23_1 : Int) t460) | ((with_reducible refine gate_store (t := 44) (p := 46) rfl ?_); refine store_event (t := 44) (p := 46) (v := ?vo_w36) (w1 := (wr.setCell ⟨go34, (x23_1 : Int).toNat, none⟩ (.int .u32 t460))) ?hg ?ho ?hn ?hr ?_; (case ho => rfl); (case hg => rfl); (case hn => rfl); (case hr => first | (go_simp; done) | (go_simp; rfl)); intro w36 hw; have hg : wr.grownBy w36 (some go34) := (by rw [hw]; exact HP35.2); have hp_ : Kd.R (Kd.int .u32) 44 w36 w.heap.size (fun _ => True) (.slice (some ⟨go34, 0, none⟩) x6_1.length co34) y462 := (by rw [hw, Ny462.out]; exact HP35.1); clear HP35; have n0_ := Aside0.mk (Kd.V_afterv (v := (.slice (some ⟨go34, 0, none⟩) x6_1.length co34)) (v1 := (.slice (some ⟨go34, 0, none⟩) x6_1.length co34)) (ok := (fun _ => True)) (by (with_reducible repeat (first | apply Kd.V_alloc | apply Kd.V_drewN | apply Kd.V_drew)); exact Kd.V_mono HO_0.out (fun _ hk => by first | exact ⟨trivial, hk⟩ | (simp only [ob_map] at hk ⊢; exact ⟨trivial, hk⟩))) hg (.inl rfl)); have n1_ := Aside0.mk (Kd.V_afterv (v := (.slice (some ⟨go34, 0, none⟩) x6_1.length co34)) (v1 := (.slice (some ⟨go34, 0, none⟩) x6_1.length co34)) (ok := (fun _ => True)) (by (with_reducible repeat (first | apply Kd.V_alloc | apply Kd.V_drewN | apply Kd.V_drew)); exact Kd.V_mono HO_1.out (fun _ hk => by first | exact ⟨trivial, hk⟩ | (simp only [ob_map] at hk ⊢; exact ⟨trivial, hk⟩))) hg (.inl rfl)); have n2_ := Aside0.mk (hp_); have n3_ := Aside0.mk ((by rw [hw]; exact below_set (HB.out) GB34.out : Below w.heap.size w w36)); clear HO_0; clear HO_1; clear HO_6; clear HB; have HO_0 := n0_; have HO_1 := n1_; have HO_6 := n2_; have HB := n3_; clear n0_ n1_ n2_ n3_; clear hg hw hp_))
           go_roundg k1
           case measure => have := HK1.out; omega
           case rel => exact ⟨(y462), (t461), (wrap64 (x23_1 + 1)), (by first | rfl | (simp; done) | (simp [*]; done)), (by first | rfl | (simp; done) | (simp [*]; done)), H', ⟨by have := HK1.out; omega⟩, ⟨by (with_reducible repeat (first | apply Kd.V_alloc | apply Kd.V_drewN | apply Kd.V_drew)); exact Kd.V_mono HO_0.out (fun _ hk => hk.2)⟩, ⟨by (with_reducible repeat (first | apply Kd.V_alloc | apply Kd.V_drewN | apply Kd.V_drew)); exact Kd.V_mono HO_1.out (fun _ hk => hk.2)⟩, ⟨by (with_reducible repeat (first | apply Kd.R_alloc | apply Kd.R_drewN | apply Kd.R_drew)); exact HO_6.out⟩, ⟨bw_ HB.out⟩⟩
          ·rw [if_neg c33] at H
           exact absurd H (by simp)
         ·rw [if_neg c31] at H
          exact absurd H (by simp)
        ·rw [if_neg c30] at H
         exact absurd H (by simp)
      ·rw [if_neg c21] at H
       have c21b0 : decide (x23_1 < (t444.length : Int)) = false := decide_eq_false c21
       clear c21
       replace H := Option.bind_eq_some_iff.mp H
       obtain ⟨t463, A370, H⟩ := H
       (try dsimp only at H)
       have A37 := Aside0.mk A370
       clear A370
       simp only [Option.some.injEq, Prod.mk.injEq] at H
       obtain ⟨rfl, rfl⟩ := H
       obtain ⟨Ao38, co38, eo38⟩ := Kd.R_slice HO_6.out
       subst eo38
       go_wp2_with (first | ((with_reducible refine gate_callee (f := 50) rfl ?_); refine gl_ (some 49) Tryd.func50 #[.slice Ao38 x6_1.length co38] ?_; (with_reducible refine (nat_cut_own.calls k1 (fun k_ => some k_ = (.slice Ao38 x6_1.length co38 : Value).ownBlock) (.slice Ao38 x6_1.length co38) x6_1 t463 w _ ?side1 ?side2 A37.out).mono ?_); (case side1 => repeat (first | (with_reducible first | exact HB.out | apply below_alloc | apply pw_below_drewN | apply below_drew1) | exact HB.out)); (case side2 => exact Kd.R_tight rfl HO_6.out); rintro e w39 ⟨v464, rfl, ho0, hb, hkp⟩; refine ⟨_, rfl, ?_⟩; have HO465 := Aside0.mk (Kd.R_mono (ok' := fun k_ => True) ho0 (fun k_ hk_ => trivial)); replace HO_0 := Aside0.mk (Kd.V_mono (ok' := fun k_ => some k_ ≠ (v464 : Value).ownBlock) (Kd.V_keptB (HO_0.out) hkp (fun k_ hk_ hs_ => (hk_) hs_)) (fun k_ hk_ => fun e_ => Or.elim (ho0.1 k_ e_.symm) (fun hs_ => hk_.2.1 hs_) (fun hn_ => Nat.not_le.2 hk_.2.2 hn_))); replace HO_1 := Aside0.mk (Kd.V_mono (ok' := fun k_ => some k_ ≠ (v464 : Value).ownBlock) (Kd.V_keptB (HO_1.out) hkp (fun k_ hk_ hs_ => (hk_) hs_)) (fun k_ hk_ => fun e_ => Or.elim (ho0.1 k_ e_.symm) (fun hs_ => hk_.2.1 hs_) (fun hn_ => Nat.not_le.2 hk_.2.2 hn_))); replace HB := Aside0.mk (hb); clear HO_6; (try clear hb); (try clear hkp); (try clear ho0)))
       go_ret2
       exact ⟨_, rf_, by (with_reducible repeat (first | apply Kd.R_alloc | apply Kd.R_drewN | apply Kd.R_drew)); exact HO465.out, bw_ HB.out⟩
   ·rw [if_neg c13] at H
    exact absurd H (by simp)
  ·rw [if_neg c12] at H
   exact absurd H (by simp)

/-! ### whole_Add: function 39 -/
theorem whole_Add.tab2 : rtab .any (opsOf Tryd.f39 2) = whole_Add.T2 := by kernel_rfl
theorem whole_Add.bits2 : waitsOk whole_Add.T2.2 whole_Add.B2 = true := by kernel_rfl
set_option maxHeartbeats 8000000 in
set_option maxRecDepth 100000 in
theorem whole_Add.calls (k : Nat) (a0_0 : Bool) (A0_1 : Option Addr) (c0_1 : Nat) (l0_1 : List Int) (a1_0 : Bool) (A1_1 : Option Addr) (c1_1 : Nat) (l1_1 : List Int) (r1 : Bool) (r2 : List Int) (w : World) (hr0_1 : Kd.C (Kd.int .u32) w A0_1 l0_1.length l0_1) (hc0_1 : l0_1.length ≤ c0_1) (hr1_1 : Kd.C (Kd.int .u32) w A1_1 l1_1.length l1_1) (hc1_1 : l1_1.length ≤ c1_1) (h : whole_Add.f k a0_0 l0_1 a1_0 l1_1 = some (r1, r2)) :
  Calls Tryd.prog 39 #[.agg #[.bool a0_0, .slice A0_1 l0_1.length c0_1], .agg #[.bool a1_0, .slice A1_1 l1_1.length c1_1]] w fun e w' => ∃ v1_ : Value, e = .returned (.agg #[.bool r1, v1_]) ∧ Kd.R (Kd.int .u32) 44 w' w.heap.size (fun _ => True) v1_ r2 ∧ Below w.heap.size w w' := by
 have hu29 := Tryd.underlying29
 have HR0_1 := Aside0.mk hr0_1
 have HC0_1 := Aside0.mk hc0_1
 clear hr0_1 hc0_1
 have HR1_1 := Aside0.mk hr1_1
 have HC1_1 := Aside0.mk hc1_1
 clear hr1_1 hc1_1
 have HB := Aside0.mk (Below.refl w.heap.size w)
 have H : (if (a0_0 == a1_0) = true then ((nat_Add.f k l0_1 l1_1).bind fun t469 => ((whole_Make.f k a0_0 t469).bind fun bt472 => (some (bt472.1, bt472.2)))) else ((nat_Sub.f k l0_1 l1_1).bind fun bt476 => (if bt476.2 = true then ((whole_Make.f k a0_0 bt476.1).bind fun bt480 => (some (bt480.1, bt480.2))) else ((nat_Sub.f k l1_1 l0_1).bind fun bt484 => ((whole_Make.f k a1_0 bt484.1).bind fun bt488 => (some (bt488.1, bt488.2))))))) = some (r1, r2) := h
 clear h
 by_cases c3 : (a0_0 == a1_0) = true
 ·rw [if_pos c3] at H
  have c3b0 : (a0_0 == a1_0) = true := c3
  (try (have c3b1 : decide (a0_0 = a1_0) = true := by simpa using c3))
  (try (have c3b2 : (a0_0 == a1_0) = true := by simpa using c3))
  clear c3
  replace H := Option.bind_eq_some_iff.mp H
  obtain ⟨t469, A40, H⟩ := H
  (try dsimp only at H)
  have A4 := Aside0.mk A40
  clear A40
  replace H := Option.bind_eq_some_iff.mp H
  obtain ⟨⟨t472, t473⟩, A50, H⟩ := H
  (try dsimp only at H)
  have A5 := Aside0.mk A50
  clear A50
  simp only [Option.some.injEq, Prod.mk.injEq] at H
  obtain ⟨rfl, rfl⟩ := H
  go_enter Tryd.func39, Tryd.ntmps39
  try go_wp2_with (first | ((with_reducible refine gate_dst (N := 2) rfl ?_); refine bx_ 2 #[.bool a0_0, .slice A0_1 l0_1.length c0_1] 29 ?_; intro gb466 hg w6 hbox hb; have BK466 := Aside0.mk (hbox); have GW466 := ge_ hg HB; have GE466 := ge_ hg HB; replace HB := bq_ HB hb; clear hb hbox hg) | ((with_reducible refine gate_dst (N := 3) rfl ?_); refine bx_ 3 #[.bool a1_0, .slice A1_1 l1_1.length c1_1] 29 ?_; intro gb467 hg w7 hbox hb; have BK467 := Aside0.mk (hbox); have GW467 := ge_ hg HB; have GE467 := ge_ hg HB; have NB466_467 := nb_ hg BK466; have NB467_466 := nc_ hg BK466; replace BK466 := kq_ BK466 hb; replace HB := bq_ HB hb; clear hb hbox hg) | ((with_reducible refine gate_dst (N := 4) rfl ?_); refine bx_ 4 #[.bool false, .slice none 0 0] 29 ?_; intro gb468 hg w8 hbox hb; have BK468 := Aside0.mk (hbox); have GW468 := ge_ hg HB; have GE468 := ge_ hg HB; have NB466_468 := nb_ hg BK466; have NB468_466 := nc_ hg BK466; have NB467_468 := nb_ hg BK467; have NB468_467 := nc_ hg BK467; replace BK466 := kq_ BK466 hb; replace BK467 := kq_ BK467 hb; replace HB := bq_ HB hb; clear hb hbox hg; have hnb9 := NB466_467.out; have hnc9 := NB467_466.out; have hnb10 := NB466_468.out; have hnc10 := NB468_466.out; obtain ⟨hcz11_0, hcz11_1, hfz11_0, hfz11_1⟩ := c2_ BK466; have hnb12 := NB467_468.out; have hnc12 := NB468_467.out; obtain ⟨hcz13_0, hcz13_1, hfz13_0, hfz13_1⟩ := c2_ BK467))
  replace BK466 := Aside0.mk (blk_drew BK466.out)
  replace BK467 := Aside0.mk (blk_drew BK467.out)
  replace BK468 := Aside0.mk (blk_drew BK468.out)
  replace HB := Aside0.mk (below_drew1 HB.out)
  refine start_ (n := 9) (S := fun w' => w'.cell? ⟨gb466, 0, none⟩ = some (.bool a0_0) ∧ w'.cell? ⟨gb466, 1, none⟩ = some (.slice A0_1 l0_1.length c0_1) ∧ w'.cell? ⟨gb467, 0, none⟩ = some (.bool a1_0) ∧ w'.cell? ⟨gb467, 1, none⟩ = some (.slice A1_1 l1_1.length c1_1)) (ds := []) #[false, false, false, false, false, false, false, false, false] (by kernel_rfl) rfl rfl ⟨(blk_cell BK466.out 0).trans rfl, (blk_cell BK466.out 1).trans rfl, (blk_cell BK467.out 0).trans rfl, (blk_cell BK467.out 1).trans rfl⟩ (fun hHeld => ?_); refine with_tabW whole_Add.tab2 whole_Add.bits2 (fun HT_ HW_ => ?_)
  generalize w8.drew = w14 at BK466 BK467 BK468 HB hHeld ⊢
  refine pure_ (i := 0) (N := some 14) (v := ?_) (a' := ?_) #[true, false, false, false, false, false, false, false, false] rfl rfl (any_of HT_.out (by kernel_rfl)) (fun _ _ _ h => h) (Or.inl ⟨by rfl, ?_⟩) ?_ ?_
  rotate_left
  ·intro w'
   go_simp
   with_reducible rfl
  rotate_left
  ·exact pt_
  refine pure_ (i := 2) (N := some 16) (v := ?_) (a' := ?_) #[true, false, true, false, false, false, false, false, false] rfl rfl (any_of HT_.out (by kernel_rfl)) (fun _ _ _ h => h) (Or.inl ⟨by rfl, ?_⟩) ?_ ?_
  rotate_left
  ·intro w'
   go_simp
   with_reducible rfl
  rotate_left
  ·exact pt_
  refine pure_ (i := 4) (N := some 18) (v := ?_) (a' := ?_) #[true, false, true, false, true, false, false, false, false] rfl rfl (any_of HT_.out (by kernel_rfl)) (fun _ _ _ h => h) (Or.inl ⟨by rfl, ?_⟩) ?_ ?_
  rotate_left
  ·intro w'
   go_simp
   with_reducible rfl
  rotate_left
  ·exact pt_
  refine take_ (i := 1) (N := some 15) (v := ?_) (a' := ?_) #[true, true, true, false, true, false, false, false, false] rfl rfl (take_ofW HT_.out HW_.out (by kernel_rfl)) (fun _ _ _ h => h) (Or.inl ⟨by rfl, ?_⟩) hHeld ?_ ?_
  rotate_left
  ·rintro w' ⟨s0, s1, s2, s3⟩
   go_simp
   with_reducible rfl
  rotate_left
  ·exact pt_
  refine take_ (i := 3) (N := some 17) (v := ?_) (a' := ?_) #[true, true, true, true, true, false, false, false, false] rfl rfl (take_ofW HT_.out HW_.out (by kernel_rfl)) (fun _ _ _ h => h) (Or.inl ⟨by rfl, ?_⟩) hHeld ?_ ?_
  rotate_left
  ·rintro w' ⟨s0, s1, s2, s3⟩
   go_simp
   with_reducible rfl
  rotate_left
  ·exact pt_
  refine take_ (i := 5) (N := some 19) (v := ?_) (a' := ?_) #[true, true, true, true, true, true, false, false, false] rfl rfl (take_ofW HT_.out HW_.out (by kernel_rfl)) (fun _ _ _ h => h) (Or.inl ⟨by rfl, ?_⟩) hHeld ?_ ?_
  rotate_left
  ·rintro w' ⟨s0, s1, s2, s3⟩
   go_simp
   with_reducible rfl
  rotate_left
  ·exact pt_
  refine one_ (i := 6) (N := some 20) #[true, true, true, true, true, true, true, false, false] rfl rfl (one_of HT_.out (by kernel_rfl)) (by decide) (fun K hK => ?_)
  refine gs_ Tryd.func52 #[.slice A0_1 l0_1.length c0_1, .slice A1_1 l1_1.length c1_1] ?_
  with_reducible refine (nat_Add.calls k _ _ l0_1 _ _ l1_1 t469 _ ?side1 ?side2 ?side3 ?side4 A4.out).mono ?_
  (case side1 => exact kc_ (Kd.C_below HR0_1.out HB.out))
  (case side2 => exact HC0_1.out)
  (case side3 => exact kc_ (Kd.C_below HR1_1.out HB.out))
  (case side4 => exact HC1_1.out)
  rintro e w15 ⟨v470, rfl, ho0, hb⟩
  refine ⟨_, rfl, ?_⟩
  have HO471 := Aside0.mk (Kd.R_lower ho0 (below_size (bw_ HB.out)))
  replace BK466 := kq_ BK466 hb
  replace BK467 := kq_ BK467 hb
  replace BK468 := kq_ BK468 hb
  replace HB := bq_ HB hb
  (try clear hb)
  (try clear hb2)
  (try clear hk)
  (try clear hi)
  (try clear ho0)
  obtain ⟨Ao16, co16, eo16⟩ := Kd.R_slice HO471.out
  (first | subst eo16 | (injection eo16 with f1_ f2_ f3_; have f4_ := f1_.symm; have f5_ := f3_.symm; clear f1_ f2_ f3_; subst f4_; subst f5_))
  refine hK.out _ _ ⟨(blk_cell BK466.out 0).trans rfl, (blk_cell BK466.out 1).trans rfl, (blk_cell BK467.out 0).trans rfl, (blk_cell BK467.out 1).trans rfl⟩ (fun hHeld => ?_)
  clear hK K
  refine norm_ (a' := ?_) ?_ ?_
  rotate_left
  ·show Act.put _ (some 20) _ = _
   exact pt_
  refine one_ (i := 7) (N := some 21) #[true, true, true, true, true, true, true, true, false] rfl rfl (one_of HT_.out (by kernel_rfl)) (by decide) (fun K hK => ?_)
  refine gs_ Tryd.func17 #[.bool a0_0, .slice Ao16 t469.length co16] ?_
  with_reducible refine (whole_Make.calls k a0_0 _ _ t469 t472 t473 _ ?side1 ?side2 A5.out).mono ?_
  (case side1 => exact kc_ (Kd.R_reads' HO471.out).2.2)
  (case side2 => exact (Kd.R_reads' HO471.out).2.1)
  rintro e w17 ⟨v474, rfl, ho0, hb⟩
  refine ⟨_, rfl, ?_⟩
  have HO475 := Aside0.mk (Kd.R_lower (Kd.R_new' ho0 (Kd.R_lt (kr_ HO471.out))) (below_size (bw_ HB.out)))
  replace HO471 := Aside0.mk (Kd.R_elder' (kr_ HO471.out) (Kd.R_base ho0) hb)
  replace BK466 := kq_ BK466 hb
  replace BK467 := kq_ BK467 hb
  replace BK468 := kq_ BK468 hb
  replace HB := bq_ HB hb
  (try clear hb)
  (try clear hb2)
  (try clear hk)
  (try clear hi)
  (try clear ho0)
  obtain ⟨Ao19, co19, eo19⟩ := Kd.R_slice HO475.out
  (first | subst eo19 | (injection eo19 with f1_ f2_ f3_; have f4_ := f1_.symm; have f5_ := f3_.symm; clear f1_ f2_ f3_; subst f4_; subst f5_))
  refine hK.out _ _ ⟨(blk_cell BK466.out 0).trans rfl, (blk_cell BK466.out 1).trans rfl, (blk_cell BK467.out 0).trans rfl, (blk_cell BK467.out 1).trans rfl⟩ (fun hHeld => ?_)
  clear hK K
  refine norm_ (a' := ?_) ?_ ?_
  rotate_left
  ·show Act.put _ (some 21) _ = _
   exact pt_
  refine one_ (i := 8) (N := none) #[true, true, true, true, true, true, true, true, true] rfl rfl (one_of HT_.out (by kernel_rfl)) (by decide) (fun K hK => ?_)
  have hs18 : w17.cell? ⟨gb468, 0, none⟩ = some (.bool false) := (blk_cell BK468.out 0).trans rfl
  have hfs18 := fz_ BK468 0
  have hns18_0 := NB466_468.out
  have hns18_1 := NB467_468.out
  have hms18_0 := NB468_466.out
  have hms18_1 := NB468_467.out
  have hs20 : w17.cell? ⟨gb468, 1, none⟩ = some (.slice none 0 0) := (blk_cell BK468.out 1).trans rfl
  have hfs20 := fz_ BK468 1
  have hns20_0 := NB466_468.out
  have hns20_1 := NB467_468.out
  have hms20_0 := NB468_466.out
  have hms20_1 := NB468_467.out
  refine skip_ (w1 := ?_) (by rfl) rfl ?_ ?_
  rotate_left
  ·go_simp
   rfl
  refine hK.out _ _ ⟨((cell_far (p := ⟨gb468, _, none⟩) NB466_468.out _).trans (((cell_far (p := ⟨gb468, _, none⟩) NB466_468.out _).trans (hHeld.1)))), ((cell_far (p := ⟨gb468, _, none⟩) NB466_468.out _).trans (((cell_far (p := ⟨gb468, _, none⟩) NB466_468.out _).trans (hHeld.2.1)))), ((cell_far (p := ⟨gb468, _, none⟩) NB467_468.out _).trans (((cell_far (p := ⟨gb468, _, none⟩) NB467_468.out _).trans (hHeld.2.2.1)))), ((cell_far (p := ⟨gb468, _, none⟩) NB467_468.out _).trans (((cell_far (p := ⟨gb468, _, none⟩) NB467_468.out _).trans (hHeld.2.2.2))))⟩ (fun hHeld => ?_)
  clear hK K
  refine done_ (done_of HT_.out (by kernel_rfl)) ?_
  try go_wp2
  refine bodyPost_ret (results_cell_row rfl _ _ gb468 29 #[.bool t472, .slice Ao19 t473.length co19] (0, 0) _ rfl (by refine kb_ ?_; refine bp_ #[.bool t472, .slice none 0 0] 1 ?_; refine bp_ #[.bool false, .slice none 0 0] 0 ?_; exact BK468.out) Tryd.underlying29 rfl (by kernel_rfl)) rfl ?_
  exact ⟨_, rf_, by (with_reducible repeat (first | apply Kd.R_alloc | apply Kd.R_drewN | apply Kd.R_drew)); exact Kd.R_mono (Kd.R_far (p := ⟨gb468, 1, none⟩) (Kd.R_far (p := ⟨gb468, 0, none⟩) (Kd.R_types HO475.out BK468.out (by decide)) (fun _ hk => hk.2) (.bool t472)) (fun _ hk => hk.2) (.slice Ao19 t473.length co19)) (fun _ hk => trivial), bw_ HB.out⟩
 ·rw [if_neg c3] at H
  have c3b0 : (a0_0 == a1_0) = false := by simpa using c3
  (try (have c3b1 : decide (a0_0 = a1_0) = false := by simpa using c3))
  (try (have c3b2 : (a0_0 == a1_0) = false := by simpa using c3))
  (try (have c3b3 : ¬ (a0_0 = a1_0) := by simpa using c3))
  clear c3
  replace H := Option.bind_eq_some_iff.mp H
  obtain ⟨⟨t476, t477⟩, A210, H⟩ := H
  (try dsimp only at H)
  have A21 := Aside0.mk A210
  clear A210
  by_cases c22 : t477 = true
  ·subst c22
   have H1 : ((whole_Make.f k a0_0 t476).bind fun bt480 => (some (bt480.1, bt480.2))) = some (r1, r2) := by rw [if_pos rfl] at H; exact H
   clear H
   have H := H1
   clear H1
   replace H := Option.bind_eq_some_iff.mp H
   obtain ⟨⟨t480, t481⟩, A230, H⟩ := H
   (try dsimp only at H)
   have A23 := Aside0.mk A230
   clear A230
   simp only [Option.some.injEq, Prod.mk.injEq] at H
   obtain ⟨rfl, rfl⟩ := H
   go_enter Tryd.func39, Tryd.ntmps39
   go_wp2_with (first | ((with_reducible refine gate_dst (N := 2) rfl ?_); refine bx_ 2 #[.bool a0_0, .slice A0_1 l0_1.length c0_1] 29 ?_; intro gb466 hg w24 hbox hb; have BK466 := Aside0.mk (hbox); have GW466 := ge_ hg HB; have GE466 := ge_ hg HB; replace HB := bq_ HB hb; clear hb hbox hg) | ((with_reducible refine gate_dst (N := 3) rfl ?_); refine bx_ 3 #[.bool a1_0, .slice A1_1 l1_1.length c1_1] 29 ?_; intro gb467 hg w25 hbox hb; have BK467 := Aside0.mk (hbox); have GW467 := ge_ hg HB; have GE467 := ge_ hg HB; have NB466_467 := nb_ hg BK466; have NB467_466 := nc_ hg BK466; replace BK466 := kq_ BK466 hb; replace HB := bq_ HB hb; clear hb hbox hg) | ((with_reducible refine gate_dst (N := 4) rfl ?_); refine bx_ 4 #[.bool false, .slice none 0 0] 29 ?_; intro gb468 hg w26 hbox hb; have BK468 := Aside0.mk (hbox); have GW468 := ge_ hg HB; have GE468 := ge_ hg HB; have NB466_468 := nb_ hg BK466; have NB468_466 := nc_ hg BK466; have NB467_468 := nb_ hg BK467; have NB468_467 := nc_ hg BK467; replace BK466 := kq_ BK466 hb; replace BK467 := kq_ BK467 hb; replace HB := bq_ HB hb; clear hb hbox hg; have hnb27 := NB466_467.out; have hnc27 := NB467_466.out; have hnb28 := NB466_468.out; have hnc28 := NB468_466.out; obtain ⟨hcz29_0, hcz29_1, hfz29_0, hfz29_1⟩ := c2_ BK466; have hnb30 := NB467_468.out; have hnc30 := NB468_467.out; obtain ⟨hcz31_0, hcz31_1, hfz31_0, hfz31_1⟩ := c2_ BK467) | ((with_reducible refine gate_callee (f := 53) rfl ?_); refine gl_ (some 27) Tryd.func53 #[.slice A0_1 l0_1.length c0_1, .slice A1_1 l1_1.length c1_1] ?_; (with_reducible refine (nat_Sub.calls k _ _ l0_1 _ _ l1_1 t476 true _ ?side1 ?side2 ?side3 ?side4 A21.out).mono ?_); (case side1 => exact kc_ (Kd.C_below HR0_1.out HB.out)); (case side2 => exact HC0_1.out); (case side3 => exact kc_ (Kd.C_below HR1_1.out HB.out)); (case side4 => exact HC1_1.out); rintro e w32 ⟨v478, rfl, ho0, hb⟩; refine ⟨_, rfl, ?_⟩; have HO479 := Aside0.mk (Kd.R_lower ho0 (below_size (bw_ HB.out))); replace BK466 := kq_ BK466 hb; replace BK467 := kq_ BK467 hb; replace BK468 := kq_ BK468 hb; replace HB := bq_ HB hb; (try clear hb); (try clear hb2); (try clear hk); (try clear hi); (try clear ho0); obtain ⟨hcz33_0, hcz33_1, hfz33_0, hfz33_1⟩ := c2_ BK466; obtain ⟨Ao34, co34, eo34⟩ := Kd.R_slice HO479.out; subst eo34) | ((with_reducible refine gate_callee (f := 17) rfl ?_); refine gl_ (some 34) Tryd.func17 #[.bool a0_0, .slice Ao34 t476.length co34] ?_; (with_reducible refine (whole_Make.calls k a0_0 _ _ t476 t480 t481 _ ?side1 ?side2 A23.out).mono ?_); (case side1 => exact kc_ (Kd.R_reads' HO479.out).2.2); (case side2 => exact (Kd.R_reads' HO479.out).2.1); rintro e w35 ⟨v482, rfl, ho0, hb⟩; refine ⟨_, rfl, ?_⟩; have HO483 := Aside0.mk (Kd.R_lower (Kd.R_new' ho0 (Kd.R_lt (kr_ HO479.out))) (below_size (bw_ HB.out))); replace HO479 := Aside0.mk (Kd.R_elder' (kr_ HO479.out) (Kd.R_base ho0) hb); replace BK466 := kq_ BK466 hb; replace BK467 := kq_ BK467 hb; replace BK468 := kq_ BK468 hb; replace HB := bq_ HB hb; (try clear hb); (try clear hb2); (try clear hk); (try clear hi); (try clear ho0); obtain ⟨hcz36_0, hcz36_1, hfz36_0, hfz36_1⟩ := c2_ BK468; obtain ⟨Ao37, co37, eo37⟩ := Kd.R_slice HO483.out; subst eo37))
   refine bodyPost_ret (results_cell_row rfl _ _ gb468 29 #[.bool t480, .slice Ao37 t481.length co37] (0, 0) _ rfl (by refine kb_ ?_; refine bp_ #[.bool t480, .slice none 0 0] 1 ?_; refine bp_ #[.bool false, .slice none 0 0] 0 ?_; exact BK468.out) Tryd.underlying29 rfl (by kernel_rfl)) rfl ?_
   exact ⟨_, rf_, by (with_reducible repeat (first | apply Kd.R_alloc | apply Kd.R_drewN | apply Kd.R_drew)); exact Kd.R_mono (Kd.R_far (p := ⟨gb468, 1, none⟩) (Kd.R_far (p := ⟨gb468, 0, none⟩) (Kd.R_types HO483.out BK468.out (by decide)) (fun _ hk => hk.2) (.bool t480)) (fun _ hk => hk.2) (.slice Ao37 t481.length co37)) (fun _ hk => trivial), bw_ HB.out⟩
  ·replace c22 := Bool.eq_false_iff.mpr c22
   subst c22
   have H1 : ((nat_Sub.f k l1_1 l0_1).bind fun bt484 => ((whole_Make.f k a1_0 bt484.1).bind fun bt488 => (some (bt488.1, bt488.2)))) = some (r1, r2) := by rw [if_neg (show ¬ (false = true) by decide)] at H; exact H
   clear H
   have H := H1
   clear H1
   replace H := Option.bind_eq_some_iff.mp H
   obtain ⟨⟨t484, t485⟩, A380, H⟩ := H
   (try dsimp only at H)
   have A38 := Aside0.mk A380
   clear A380
   replace H := Option.bind_eq_some_iff.mp H
   obtain ⟨⟨t488, t489⟩, A390, H⟩ := H
   (try dsimp only at H)
   have A39 := Aside0.mk A390
   clear A390
   simp only [Option.some.injEq, Prod.mk.injEq] at H
   obtain ⟨rfl, rfl⟩ := H
   go_enter Tryd.func39, Tryd.ntmps39
   go_wp2_with (first | ((with_reducible refine gate_dst (N := 2) rfl ?_); refine bx_ 2 #[.bool a0_0, .slice A0_1 l0_1.length c0_1] 29 ?_; intro gb466 hg w40 hbox hb; have BK466 := Aside0.mk (hbox); have GW466 := ge_ hg HB; have GE466 := ge_ hg HB; replace HB := bq_ HB hb; clear hb hbox hg) | ((with_reducible refine gate_dst (N := 3) rfl ?_); refine bx_ 3 #[.bool a1_0, .slice A1_1 l1_1.length c1_1] 29 ?_; intro gb467 hg w41 hbox hb; have BK467 := Aside0.mk (hbox); have GW467 := ge_ hg HB; have GE467 := ge_ hg HB; have NB466_467 := nb_ hg BK466; have NB467_466 := nc_ hg BK466; replace BK466 := kq_ BK466 hb; replace HB := bq_ HB hb; clear hb hbox hg) | ((with_reducible refine gate_dst (N := 4) rfl ?_); refine bx_ 4 #[.bool false, .slice none 0 0] 29 ?_; intro gb468 hg w42 hbox hb; have BK468 := Aside0.mk (hbox); have GW468 := ge_ hg HB; have GE468 := ge_ hg HB; have NB466_468 := nb_ hg BK466; have NB468_466 := nc_ hg BK466; have NB467_468 := nb_ hg BK467; have NB468_467 := nc_ hg BK467; replace BK466 := kq_ BK466 hb; replace BK467 := kq_ BK467 hb; replace HB := bq_ HB hb; clear hb hbox hg; have hnb43 := NB466_467.out; have hnc43 := NB467_466.out; have hnb44 := NB466_468.out; have hnc44 := NB468_466.out; obtain ⟨hcz45_0, hcz45_1, hfz45_0, hfz45_1⟩ := c2_ BK466; have hnb46 := NB467_468.out; have hnc46 := NB468_467.out; obtain ⟨hcz47_0, hcz47_1, hfz47_0, hfz47_1⟩ := c2_ BK467) | ((with_reducible refine gate_callee (f := 53) rfl ?_); refine gl_ (some 27) Tryd.func53 #[.slice A0_1 l0_1.length c0_1, .slice A1_1 l1_1.length c1_1] ?_; (with_reducible refine (nat_Sub.calls k _ _ l0_1 _ _ l1_1 t476 false _ ?side1 ?side2 ?side3 ?side4 A21.out).mono ?_); (case side1 => exact kc_ (Kd.C_below HR0_1.out HB.out)); (case side2 => exact HC0_1.out); (case side3 => exact kc_ (Kd.C_below HR1_1.out HB.out)); (case side4 => exact HC1_1.out); rintro e w48 ⟨v478, rfl, ho0, hb⟩; refine ⟨_, rfl, ?_⟩; have HO479 := Aside0.mk (Kd.R_lower ho0 (below_size (bw_ HB.out))); replace BK466 := kq_ BK466 hb; replace BK467 := kq_ BK467 hb; replace BK468 := kq_ BK468 hb; replace HB := bq_ HB hb; (try clear hb); (try clear hb2); (try clear hk); (try clear hi); (try clear ho0); obtain ⟨hcz49_0, hcz49_1, hfz49_0, hfz49_1⟩ := c2_ BK467; obtain ⟨hcz50_0, hcz50_1, hfz50_0, hfz50_1⟩ := c2_ BK466) | ((with_reducible refine gate_callee (f := 53) rfl ?_); refine gl_ (some 40) Tryd.func53 #[.slice A1_1 l1_1.length c1_1, .slice A0_1 l0_1.length c0_1] ?_; (with_reducible refine (nat_Sub.calls k _ _ l1_1 _ _ l0_1 t484 t485 _ ?side1 ?side2 ?side3 ?side4 A38.out).mono ?_); (case side1 => exact kc_ (Kd.C_below HR1_1.out HB.out)); (case side2 => exact HC1_1.out); (case side3 => exact kc_ (Kd.C_below HR0_1.out HB.out)); (case side4 => exact HC0_1.out); rintro e w51 ⟨v486, rfl, ho0, hb⟩; refine ⟨_, rfl, ?_⟩; have HO487 := Aside0.mk (Kd.R_lower (Kd.R_new' ho0 (Kd.R_lt (kr_ HO479.out))) (below_size (bw_ HB.out))); replace HO479 := Aside0.mk (Kd.R_elder' (kr_ HO479.out) (Kd.R_base ho0) hb); replace BK466 := kq_ BK466 hb; replace BK467 := kq_ BK467 hb; replace BK468 := kq_ BK468 hb; replace HB := bq_ HB hb; (try clear hb); (try clear hb2); (try clear hk); (try clear hi); (try clear ho0); obtain ⟨hcz52_0, hcz52_1, hfz52_0, hfz52_1⟩ := c2_ BK467; obtain ⟨Ao53, co53, eo53⟩ := Kd.R_slice HO487.out; subst eo53) | ((with_reducible refine gate_callee (f := 17) rfl ?_); refine gl_ (some 46) Tryd.func17 #[.bool a1_0, .slice Ao53 t484.length co53] ?_; (with_reducible refine (whole_Make.calls k a1_0 _ _ t484 t488 t489 _ ?side1 ?side2 A39.out).mono ?_); (case side1 => exact kc_ (Kd.R_reads' HO487.out).2.2); (case side2 => exact (Kd.R_reads' HO487.out).2.1); rintro e w54 ⟨v490, rfl, ho0, hb⟩; refine ⟨_, rfl, ?_⟩; have HO491 := Aside0.mk (Kd.R_lower (Kd.R_new' (Kd.R_new' ho0 (Kd.R_lt (kr_ HO479.out))) (Kd.R_lt (kr_ HO487.out))) (below_size (bw_ HB.out))); replace HO479 := Aside0.mk (Kd.R_elder' (kr_ HO479.out) (Kd.R_base ho0) hb); replace HO487 := Aside0.mk (Kd.R_elder' (kr_ HO487.out) (Kd.R_base ho0) hb); replace BK466 := kq_ BK466 hb; replace BK467 := kq_ BK467 hb; replace BK468 := kq_ BK468 hb; replace HB := bq_ HB hb; (try clear hb); (try clear hb2); (try clear hk); (try clear hi); (try clear ho0); obtain ⟨hcz55_0, hcz55_1, hfz55_0, hfz55_1⟩ := c2_ BK468; obtain ⟨Ao56, co56, eo56⟩ := Kd.R_slice HO491.out; subst eo56))
   refine bodyPost_ret (results_cell_row rfl _ _ gb468 29 #[.bool t488, .slice Ao56 t489.length co56] (0, 0) _ rfl (by refine kb_ ?_; refine bp_ #[.bool t488, .slice none 0 0] 1 ?_; refine bp_ #[.bool false, .slice none 0 0] 0 ?_; exact BK468.out) Tryd.underlying29 rfl (by kernel_rfl)) rfl ?_
   exact ⟨_, rf_, by (with_reducible repeat (first | apply Kd.R_alloc | apply Kd.R_drewN | apply Kd.R_drew)); exact Kd.R_mono (Kd.R_far (p := ⟨gb468, 1, none⟩) (Kd.R_far (p := ⟨gb468, 0, none⟩) (Kd.R_types HO491.out BK468.out (by decide)) (fun _ hk => hk.2) (.bool t488)) (fun _ hk => hk.2) (.slice Ao56 t489.length co56)) (fun _ hk => trivial), bw_ HB.out⟩

end Go.Proofs.YthlhogcnfaiphaaDoor.PA
