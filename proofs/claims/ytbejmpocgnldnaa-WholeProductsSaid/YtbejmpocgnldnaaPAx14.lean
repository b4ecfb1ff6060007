-- Laid by this work's own program; Lean checks it.
import Derived.Test.YtbejmpocgnldnaaPAx0
import Derived.Test.YtbejmpocgnldnaaPAx1
import Derived.Test.YtbejmpocgnldnaaPAx9
import Derived.Test.YtbejmpocgnldnaaPAx11
namespace Go.Proofs.Ytbejmpocgnldnaa.PA
open Go.RowKit Go.Proofs.YtbejmpocgnldnaaW.PrintWords Go.Proofs.YtbejmpocgnldnaaW.PrintLast Go.Proofs.YtbejmpocgnldnaaW.PrintMore
attribute [local go_sem] max2_int min2_int max_two min_two max_three min_three max_four min_four   -- for this text's walks alone
set_option linter.unusedVariables false
set_option linter.unusedSimpArgs false

attribute [local go_sem ↓ high] isSome_set_
/-! ### pelorusref01_Len: function 57 -/
set_option maxHeartbeats 8000000 in
set_option maxRecDepth 100000 in
theorem pelorusref01_Len.calls (k : Nat) (A0 : Option Addr) (c0 : Nat) (l0 : List Int) (r : Int) (w : World) (hr0 : Kd.C (Kd.int .u32) w A0 l0.length l0) (hc0 : l0.length ≤ c0) (h : pelorusref01_Len.f k l0 = some r) :
  Calls Try.prog 57 #[.slice A0 l0.length c0] w fun e w' => e = .returned (.int .i64 r) ∧ Below w.heap.size w w' := by
 have HR0 := Aside0.mk hr0
 have HC0 := Aside0.mk hc0
 clear hr0 hc0
 have HB := Aside0.mk (Below.refl w.heap.size w)
 have H : ((pelorusref01_Trim.f k l0).bind fun t686 => (if (t686.length : Int) = 0 then (some 0) else (if 0 ≤ (wrap64 ((t686.length : Int) - 1)) then (if (wrap64 ((t686.length : Int) - 1)) < (t686.length : Int) then (pelorusref01_Len.l0 k (wrap64 (32 * (wrap64 ((t686.length : Int) - 1)))) (rd t686 (wrap64 ((t686.length : Int) - 1)))) else (none)) else (none)))) = some r := h
 clear h
 replace H := Option.bind_eq_some_iff.mp H
 obtain ⟨t686, A20, H⟩ := H
 (try dsimp only at H)
 have A2 := Aside0.mk A20
 clear A20
 by_cases c3 : (t686.length : Int) = 0
 ·rw [if_pos c3] at H
  have c3b0 : ((t686.length : Int) == 0) = true := beq_iff_eq.mpr c3
  have c3b1 : ((t686.length : Int) != 0) = false := bne_eq_false_iff_eq.mpr c3
  clear c3
  obtain rfl := Option.some.inj H
  go_enter Try.func57, Try.ntmps57
  go_wp2_with (first | ((with_reducible refine gate_callee (f := 41) rfl ?_); refine gl_ (some 7) Try.func41 #[.slice A0 l0.length c0] ?_; (with_reducible refine (pelorusref01_Trim.calls k _ _ l0 t686 _ ?side1 ?side2 A2.out).mono ?_); (case side1 => exact kc_ HR0.out); (case side2 => exact HC0.out); rintro e w4 ⟨v687, rfl, ho0, hb⟩; refine ⟨_, rfl, ?_⟩; have HO688 := Aside0.mk (Kd.R_lower ho0 (below_size (bw_ HB.out))); replace HB := bq_ HB hb; (try clear hb); (try clear hb2); (try clear hk); (try clear hi); (try clear ho0); obtain ⟨Ao5, co5, eo5⟩ := Kd.R_slice HO688.out; subst eo5))
  go_ret
  exact ⟨rf_, bw_ HB.out⟩
 ·rw [if_neg c3] at H
  have c3b0 : ((t686.length : Int) == 0) = false := beq_eq_false_iff_ne.mpr c3
  have c3b1 : ((t686.length : Int) != 0) = true := bne_iff_ne.mpr c3
  have c3b2 : ¬ (t686 = []) := fun h_ => c3 (by rw [h_]; rfl)
  obtain ⟨ji6, hji6⟩ : ∃ j_ : Int, (wrap64 ((t686.length : Int) - 1)) = j_ := ⟨_, rfl⟩
  (first | rw [hji6] at H | simp only [hji6] at H)
  (try rw [hji6] at A2)
  have hji6w : (IntKind.i64.wrap ((t686.length : Int) - 1)) = ji6 := (i64_w _).trans hji6
  by_cases c7 : 0 ≤ (ji6)
  ·rw [if_pos c7] at H
   have c7b0 : decide (0 ≤ (ji6)) = true := decide_eq_true c7
   clear c7
   by_cases c8 : (ji6) < (t686.length : Int)
   ·rw [if_pos c8] at H
    have c8b0 : decide ((ji6) < (t686.length : Int)) = true := decide_eq_true c8
    clear c8
    have H' := Aside0.mk H
    clear H
    go_enter Try.func57, Try.ntmps57
    go_wp2_with (first | ((with_reducible refine gate_callee (f := 41) rfl ?_); refine gl_ (some 7) Try.func41 #[.slice A0 l0.length c0] ?_; (with_reducible refine (pelorusref01_Trim.calls k _ _ l0 t686 _ ?side1 ?side2 A2.out).mono ?_); (case side1 => exact kc_ HR0.out); (case side2 => exact HC0.out); rintro e w9 ⟨v687, rfl, ho0, hb⟩; refine ⟨_, rfl, ?_⟩; have HO688 := Aside0.mk (Kd.R_lower ho0 (below_size (bw_ HB.out))); replace HB := bq_ HB hb; (try clear hb); (try clear hb2); (try clear hk); (try clear hi); (try clear ho0); obtain ⟨Ao10, co10, eo10⟩ := Kd.R_slice HO688.out; subst eo10; have p689 : 0 ≤ ((ji6) : Int) := of_decide_eq_true (by first | (with_reducible assumption) | assumption); have q689 : (ji6) < (t686.length : Int) := of_decide_eq_true (by first | (with_reducible assumption) | assumption); obtain ⟨ad689, e689, hx689_0⟩ := Kd.at_int (Kd.R_reads' HO688.out).2.2 (ji6) p689 q689; cases e689; replace p689 := eq_true p689; replace q689 := eq_true q689))
    go_loopg [4, 5] k (fun kq v4 v5 w' => ∃ (x4_1 : Int) (x5_1 : Int), v4 = .int .i64 x4_1 ∧ v5 = .int .u32 x5_1 ∧ Aside0 (pelorusref01_Len.l0 kq x4_1 x5_1 = some r) ∧ Aside0 (kq ≤ k) ∧ Aside0 (Below w.heap.size w w'))
    case atStart => exact ⟨(wrap64 (32 * (ji6))), (rd t686 (ji6)), (by first | rfl | (simp; done) | (simp only [← hji6] <;> (first | rfl | simp)) | (simp [*]; done)), (by first | rfl | (simp; done) | (simp only [← hji6] <;> (first | rfl | simp)) | (simp [*]; done)), H', ⟨Nat.le_refl _⟩, ⟨bw_ HB.out⟩⟩
    case round =>
     clear H'
     try clear p2
     try clear c3
     try clear c3b0
     try clear c3b1
     try clear c3b2
     try clear c4
     try clear c5
     try clear p6
     try clear q6
     try clear hx6
     try clear c7
     try clear c7b0
     try clear c8
     try clear c8b0
     try clear hx689_0
     try clear p689
     try clear q689
     obtain ⟨x4_1, x5_1, rfl, rfl, HA, HK1, HB⟩ := hrel
     cases gk with
     | zero => exact absurd HA.out (by simp [pelorusref01_Len.l0])
     | succ k1 =>
      have H := HA.out
      clear HA
      simp only [pelorusref01_Len.l0] at H
      by_cases c11 : x5_1 > 0
      ·rw [if_pos c11] at H
       have c11b0 : decide (0 < x5_1) = true := decide_eq_true c11
       clear c11
       have H' := Aside0.mk H
       clear H
       go_wp2
       go_roundg k1
       case measure => have := HK1.out; omega
       case rel => exact ⟨(wrap64 (x4_1 + 1)), ((Int.tdiv x5_1 2) % 4294967296), (by first | rfl | (simp; done) | (simp [*]; done)), (by first | rfl | (simp; done) | (simp [*]; done)), H', ⟨by have := HK1.out; omega⟩, ⟨bw_ HB.out⟩⟩
      ·rw [if_neg c11] at H
       have c11b0 : decide (0 < x5_1) = false := decide_eq_false c11
       clear c11
       obtain rfl := Option.some.inj H
       go_wp2
       go_ret
       exact ⟨by first | rfl | (simp [errW_none, errW_some] <;> rfl) | (simp only [← hji6]; first | rfl | (simp [errW_none, errW_some] <;> rfl)) | (simp [*, errW_none, errW_some] <;> rfl), bw_ HB.out⟩
   ·rw [if_neg c8] at H
    exact absurd H (by simp)
  ·rw [if_neg c7] at H
   exact absurd H (by simp)

/-! ### pelorusref01_bit: function 58 -/
set_option maxHeartbeats 8000000 in
set_option maxRecDepth 100000 in
theorem pelorusref01_bit.calls (A0 : Option Addr) (c0 : Nat) (l0 : List Int) (a1 : Int) (r : Bool) (w : World) (hr0 : Kd.C (Kd.int .u32) w A0 l0.length l0) (hc0 : l0.length ≤ c0) (h : pelorusref01_bit.f l0 a1 = some r) :
  Calls Try.prog 58 #[.slice A0 l0.length c0, .int .i64 a1] w fun e w' => e = .returned (.bool r) ∧ Drawn0 w w' := by
 have HR0 := Aside0.mk hr0
 have HC0 := Aside0.mk hc0
 clear hr0 hc0
 have H : ((pelorusref01_at.f l0 (wrap64 (Int.tdiv a1 32))).bind fun t690 => (if 0 ≤ (IntKind.u64.wrap (Int.tmod a1 32)) then (some ((Int.tmod (shr .u64 t690 (IntKind.u64.wrap (Int.tmod a1 32))) 2) == 1)) else (none))) = some r := h
 clear h
 replace H := Option.bind_eq_some_iff.mp H
 obtain ⟨t690, A30, H⟩ := H
 (try dsimp only at H)
 have A3 := Aside0.mk A30
 clear A30
 obtain ⟨ji4, hji4⟩ : ∃ j_ : Int, (IntKind.u64.wrap (Int.tmod a1 32)) = j_ := ⟨_, rfl⟩
 (first | rw [hji4] at H | simp only [hji4] at H)
 (try rw [hji4] at A3)
 by_cases c5 : 0 ≤ (ji4)
 ·rw [if_pos c5] at H
  have c5b0 := eq_true c5
  have c5b1 : decide (0 ≤ (ji4)) = true := decide_eq_true c5
  clear c5
  obtain ⟨ji6, hji6⟩ : ∃ j_ : Int, (shr .u64 t690 (ji4)) = j_ := ⟨_, rfl⟩
  (first | rw [hji6] at H | simp only [hji6] at H)
  (try rw [hji6] at A3)
  have hji6_ : (t690 / 2 ^ min (ji4).toNat 64) = ji6 := hji6
  have hji6z : (ji4) ≤ 64 → (t690 / 2 ^ (ji4).toNat) = ji6 := shr_small hji6
  obtain rfl := Option.some.inj H
  go_enter Try.func58, Try.ntmps58
  go_wp2_with (first | ((with_reducible refine gate_callee (f := 64) rfl ?_); refine gl_ (some 8) Try.func64 #[.slice A0 l0.length c0, .int .i64 (wrap64 (Int.tdiv a1 32))] ?_; (with_reducible refine (pelorusref01_at.calls _ _ l0 (wrap64 (Int.tdiv a1 32)) t690 _ ?side1 ?side2 A3.out).mono ?_); (case side1 => exact kc_ HR0.out); (case side2 => exact HC0.out); rintro e w' ⟨rfl, ⟨nd, rfl⟩⟩; refine ⟨_, rfl, ?_⟩))
  go_ret
  exact ⟨by first | rfl | (simp; done) | (simp only [← hji4, ← hji6] <;> (first | rfl | simp)) | (simp [*]; done), by repeat (first | exact Drawn0.refl _ | apply Drawn0.step)⟩
 ·rw [if_neg c5] at H
  exact absurd H (by simp)

/-! ### pelorusref01_set: function 59 -/
set_option maxHeartbeats 8000000 in
set_option maxRecDepth 100000 in
theorem pelorusref01_set.calls (k : Nat) (A0 : Option Addr) (c0 : Nat) (l0 : List Int) (a1 : Int) (r : List Int) (w : World) (hr0 : Kd.C (Kd.int .u32) w A0 l0.length l0) (hc0 : l0.length ≤ c0) (h : pelorusref01_set.f k l0 a1 = some r) :
  Calls Try.prog 59 #[.slice A0 l0.length c0, .int .i64 a1] w fun e w' => ∃ v0_ : Value, e = .returned (v0_) ∧ Kd.R (Kd.int .u32) 47 w' w.heap.size (fun _ => True) v0_ r ∧ Below w.heap.size w w' := by
 have HR0 := Aside0.mk hr0
 have HC0 := Aside0.mk hc0
 clear hr0 hc0
 have HB := Aside0.mk (Below.refl w.heap.size w)
 have H : (if ([] : List Int).length + l0.length < 35184372088832 then (pelorusref01_set.l0 k a1 (([] : List Int) ++ l0)) else (none)) = some r := h
 clear h
 by_cases c3 : ([] : List Int).length + l0.length < 35184372088832
 ·rw [if_pos c3] at H
  have LMc3 := Aside0.mk c3
  clear c3
  obtain ⟨y691, hy691⟩ : ∃ y_ : List Int, y_ = (([] : List Int) ++ l0) := ⟨_, rfl⟩
  replace H : (pelorusref01_set.l0 k a1 y691) = some r := by first | (rw [hy691]; with_reducible exact H) | (have H2_ := (Option.bind_some _ _).symm.trans H; rw [hy691]; with_reducible exact H2_) | (have H2_ := (Option.bind_some _ _).symm.trans H; with_reducible exact H2_) | with_reducible exact H | (rw [hy691]; exact H) | exact H
  have Ny691 := Aside0.mk hy691
  clear hy691
  have H' := Aside0.mk H
  clear H
  go_enter Try.func59, Try.ntmps59
  go_wp2_with (first | ((with_reducible refine gate_builtin (b := .append) (xs := #[.const (.slice none 0 0), .tmp 6]) rfl ?_); at_builtin; refine Kd.R_append_rows (Kd.int .u32) (w0 := w) w.heap.size rfl (.const (.slice none 0 0)) (.tmp 6) 22 47 (.int .u32 0) 4 rfl Try.underlying22 info47 rfl (by decide) (by omega) (.slice none 0 0) ([] : List Int) l0 _ _ _ (fun _ => True) (fun _ => False) rfl rfl ?aO ?aR (fun _ _ h => h) (fun _ h => h.elim) ?aF ?aB ?aS ?aL ?_; (case aR => exact kc_ HR0.out); (case aB => exact (bw_ HB.out)); (case aF => exact (fun _ _ => trivial)); (case aO => exact ((Kd.R_nil _ _ _ _ (fun _ => True)))); (case aS => exact (below_size (bw_ HB.out))); (case aL => have := LMc3.out; omega); intro v692 w4 ho hb hg hat; rw [← Ny691.out] at ho; have HO693 := Aside0.mk (ho); replace HB := Aside0.mk (hb); clear ho hb hg hat))
  go_loopg [5] k (fun kq v5 w' => ∃ (x5_1 : List Int), Aside0 (pelorusref01_set.l0 kq a1 x5_1 = some r) ∧ Aside0 (kq ≤ k) ∧ Aside0 (Kd.R (Kd.int .u32) 47 w' w.heap.size (fun _ => True) v5 x5_1) ∧ Aside0 (Below w.heap.size w w'))
  case atStart => exact ⟨(y691), H', ⟨Nat.le_refl _⟩, ⟨by (with_reducible repeat (first | apply Kd.R_alloc | apply Kd.R_drewN | apply Kd.R_drew)); exact HO693.out⟩, ⟨bw_ HB.out⟩⟩
  case round =>
   clear H'
   try clear p2
   try clear c3
   obtain ⟨x5_1, HA, HK1, HO_5, HB⟩ := hrel
   cases gk with
   | zero => exact absurd HA.out (by simp [pelorusref01_set.l0])
   | succ k1 =>
    have H := HA.out
    clear HA
    simp only [pelorusref01_set.l0] at H
    by_cases c5 : (x5_1.length : Int) ≤ (wrap64 (Int.tdiv a1 32))
    ·rw [if_pos c5] at H
     have c5b0 : decide ((x5_1.length : Int) ≤ (wrap64 (Int.tdiv a1 32))) = true := decide_eq_true c5
     clear c5
     by_cases c6 : x5_1.length < 35184372088832
     ·rw [if_pos c6] at H
      have LMc6 := Aside0.mk c6
      clear c6
      obtain ⟨y694, hy694⟩ : ∃ y_ : List Int, y_ = (x5_1 ++ [0]) := ⟨_, rfl⟩
      replace H : (pelorusref01_set.l0 k1 a1 y694) = some r := by first | (rw [hy694]; with_reducible exact H) | (have H2_ := (Option.bind_some _ _).symm.trans H; rw [hy694]; with_reducible exact H2_) | (have H2_ := (Option.bind_some _ _).symm.trans H; with_reducible exact H2_) | with_reducible exact H | (rw [hy694]; exact H) | exact H
      have Ny694 := Aside0.mk hy694
      clear hy694
      have H' := Aside0.mk H
      clear H
      obtain ⟨Ao7, co7, eo7⟩ := Kd.R_slice HO_5.out
      subst eo7
      go_wp2_with (first | ((with_reducible refine gate_builtin (b := .append) (xs := #[.tmp 13, .tmp 14]) rfl ?_); at_builtin; refine Kd.R_append (Kd.int .u32) (w0 := w) w.heap.size rfl (.tmp 13) (.tmp 14) 22 47 (.int .u32 0) 4 rfl Try.underlying22 info47 rfl (by decide) (by omega) (.slice Ao7 x5_1.length co7) x5_1 0 [.int .u32 0] (fun _ => True) (fun _ => False) rfl rfl ?aP (fun _ hk => hk.elim) ?aF ?aO ?aB ?aS ?aL ?_; (case aP => exact rfl); (case aB => exact (bw_ HB.out)); (case aF => exact (fun _ _ => trivial)); (case aO => exact (kr_ HO_5.out)); (case aS => exact (below_size (bw_ HB.out))); (case aL => have := LMc6.out; omega); intro v695 w8 ho hb hg hat; rw [← Ny694.out] at ho; have HO696 := Aside0.mk (ho); replace HB := Aside0.mk (hb); clear HO_5; clear ho hb hg hat))
      go_roundg k1
      case measure => have := HK1.out; omega
      case rel => exact ⟨(y694), H', ⟨by have := HK1.out; omega⟩, ⟨by (with_reducible repeat (first | apply Kd.R_alloc | apply Kd.R_drewN | apply Kd.R_drew)); exact HO696.out⟩, ⟨bw_ HB.out⟩⟩
     ·rw [if_neg c6] at H
      exact absurd H (by simp)
    ·rw [if_neg c5] at H
     have c5b0 : decide ((x5_1.length : Int) ≤ (wrap64 (Int.tdiv a1 32))) = false := decide_eq_false c5
     clear c5
     obtain ⟨ji9, hji9⟩ : ∃ j_ : Int, (wrap64 (Int.tdiv a1 32)) = j_ := ⟨_, rfl⟩
     (first | rw [hji9] at H | simp only [hji9] at H)
     (try rw [hji9] at c5b0)
     have hji9w : (IntKind.i64.wrap (Int.tdiv a1 32)) = ji9 := (i64_w _).trans hji9
     by_cases c10 : 0 ≤ (ji9)
     ·rw [if_pos c10] at H
      have c10b0 : decide (0 ≤ (ji9)) = true := decide_eq_true c10
      clear c10
      by_cases c11 : (ji9) < (x5_1.length : Int)
      ·rw [if_pos c11] at H
       have c11b0 : decide ((ji9) < (x5_1.length : Int)) = true := decide_eq_true c11
       clear c11
       obtain ⟨ji12, hji12⟩ : ∃ j_ : Int, (IntKind.u64.wrap (Int.tmod a1 32)) = j_ := ⟨_, rfl⟩
       (first | rw [hji12] at H | simp only [hji12] at H)
       by_cases c13 : 0 ≤ (ji12)
       ·rw [if_pos c13] at H
        have c13b0 := eq_true c13
        have c13b1 : decide (0 ≤ (ji12)) = true := decide_eq_true c13
        clear c13
        obtain ⟨ji14, hji14⟩ : ∃ j_ : Int, (shl .u32 1 (ji12)) = j_ := ⟨_, rfl⟩
        (first | rw [hji14] at H | simp only [hji14] at H)
        have hji14_ : (IntKind.u32.wrap (1 * 2 ^ min (ji12).toNat 32)) = ji14 := hji14
        have hji14z : (ji12) ≤ 32 → (IntKind.u32.wrap (1 * 2 ^ (ji12).toNat)) = ji14 := shl_small hji14
        have hji14u : (IntKind.u32.wrap (2 ^ min (ji12).toNat 32)) = ji14 := by have h_ := hji14_; rw [Int.one_mul] at h_; exact h_
        have hji14v : (ji12) ≤ 32 → (IntKind.u32.wrap (2 ^ (ji12).toNat)) = ji14 := fun hle_ => by have h_ := hji14z hle_; rw [Int.one_mul] at h_; exact h_
        obtain ⟨y698, hy698⟩ : ∃ y_ : List Int, y_ = (x5_1.set ((ji9) : Int).toNat (((rd x5_1 (ji9)) + (ji14)) % 4294967296)) := ⟨_, rfl⟩
        replace H : (some y698) = some r := by first | (rw [hy698]; with_reducible exact H) | (have H2_ := (Option.bind_some _ _).symm.trans H; rw [hy698]; with_reducible exact H2_) | (have H2_ := (Option.bind_some _ _).symm.trans H; with_reducible exact H2_) | with_reducible exact H | (rw [hy698]; exact H) | exact H
        have Ny698 := Aside0.mk hy698
        clear hy698
        obtain rfl := Option.some.inj H
        obtain ⟨Ao16, co16, eo16⟩ := Kd.R_slice HO_5.out
        subst eo16
        have p697 : 0 ≤ ((ji9) : Int) := of_decide_eq_true (by first | (with_reducible assumption) | assumption)
        have q697 : (ji9) < (x5_1.length : Int) := of_decide_eq_true (by first | (with_reducible assumption) | assumption)
        obtain ⟨ad697, e697, hx697_0⟩ := Kd.at_int (Kd.R_reads' HO_5.out).2.2 (ji9) p697 q697
        cases e697
        replace p697 := eq_true p697
        replace q697 := eq_true q697
        have p15 : 0 ≤ ((ji9) : Int) := of_decide_eq_true (by first | (with_reducible assumption) | assumption)
        have q15 : ((ji9) : Int) < ((x5_1.length : Int) : Int) := of_decide_eq_true (by first | (with_reducible assumption) | assumption)
        obtain ⟨go15, co15, eo15, gb15, gl15, cl15, HG15⟩ := Kd.R_form HO_5.out (by omega)
        (first | cases eo15 | (injection eo15 with ea_ en_ ec_; (first | subst ea_ | (injection ea_ with ea_; subst ea_)); subst ec_; clear en_))
        have GB15 := Aside0.mk gb15
        have GG15 := Aside0.mk HG15
        clear gb15 gl15 HG15
        (first | simp only [add_plain] at hx697_0 | skip)
        obtain ⟨hx15_0, hf15_0⟩ := Kd.R_celln 0 HO_5.out ((ji9) : Int) p15 q15
        replace p15 := eq_true p15
        replace q15 := eq_true q15
        have HP17 := Kd.R_putg HO_5.out ((ji9) : Int) (((rd x5_1 (ji9)) + (ji14)) % 4294967296)
        go_wp2_with (first | ((with_reducible refine gate_store (t := 47) (p := 29) rfl ?_); refine store_event (t := 47) (p := 29) (v := ?vo_w18) (w1 := (wr.setCell ⟨go15, ((ji9) : Int).toNat, none⟩ (.int .u32 (((rd x5_1 (ji9)) + (ji14)) % 4294967296)))) ?hg ?ho ?hn ?hr ?_; (case ho => rfl); (case hg => rfl); (case hn => rfl); (case hr => first | (go_simp; done) | (go_simp; rfl)); intro w18 hw; have hg : wr.grownBy w18 (some go15) := (by rw [hw]; exact HP17.2); have hp_ : Kd.R (Kd.int .u32) 47 w18 w.heap.size (fun _ => True) (.slice (some ⟨go15, 0, none⟩) x5_1.length co16) y698 := (by rw [hw, Ny698.out]; exact HP17.1); clear HP17; have n0_ := Aside0.mk (hp_); have n1_ := Aside0.mk ((by rw [hw]; exact below_set (HB.out) GB15.out : Below w.heap.size w w18)); clear HO_5; clear HB; have HO_5 := n0_; have HB := n1_; clear n0_ n1_; clear hg hw hp_))
        go_ret
        exact ⟨_, by first | rfl | (simp [errW_none, errW_some] <;> rfl) | (simp only [← hji9, ← hji12, ← hji14]; first | rfl | (simp [errW_none, errW_some] <;> rfl)) | (simp [*, errW_none, errW_some] <;> rfl), by (with_reducible repeat (first | apply Kd.R_alloc | apply Kd.R_drewN | apply Kd.R_drew)); exact HO_5.out, bw_ HB.out⟩
       ·rw [if_neg c13] at H
        exact absurd H (by simp)
      ·rw [if_neg c11] at H
       exact absurd H (by simp)
     ·rw [if_neg c10] at H
      exact absurd H (by simp)
 ·rw [if_neg c3] at H
  exact absurd H (by simp)

/-! ### pelorusref01_Div: function 36 -/
set_option maxHeartbeats 8000000 in
set_option maxRecDepth 100000 in
theorem pelorusref01_Div.calls (k : Nat) (A0 : Option Addr) (c0 : Nat) (l0 : List Int) (A1 : Option Addr) (c1 : Nat) (l1 : List Int) (r1 : List Int) (r2 : List Int) (r3 : Bool) (w : World) (hr0 : Kd.C (Kd.int .u32) w A0 l0.length l0) (hc0 : l0.length ≤ c0) (hr1 : Kd.C (Kd.int .u32) w A1 l1.length l1) (hc1 : l1.length ≤ c1) (h : pelorusref01_Div.f k l0 l1 = some (r1, r2, r3)) :
  Calls Try.prog 36 #[.slice A0 l0.length c0, .slice A1 l1.length c1] w fun e w' => ∃ v0_ v1_ : Value, e = .returned (.tuple #[v0_, v1_, .bool r3]) ∧ Kd.R (Kd.int .u32) 47 w' w.heap.size (fun k_ => some k_ ≠ (v1_ : Value).ownBlock) v0_ r1 ∧ Kd.R (Kd.int .u32) 47 w' w.heap.size (fun k_ => some k_ ≠ (v0_ : Value).ownBlock) v1_ r2 ∧ Below w.heap.size w w' := by
 have HR0 := Aside0.mk hr0
 have HC0 := Aside0.mk hc0
 clear hr0 hc0
 have HR1 := Aside0.mk hr1
 have HC1 := Aside0.mk hc1
 clear hr1 hc1
 have HB := Aside0.mk (Below.refl w.heap.size w)
 have H : ((pelorusref01_Trim.f k l1).bind fun t699 => (if (t699.length : Int) = 0 then (some (([] : List Int), ([] : List Int), false)) else ((pelorusref01_Len.f k l0).bind fun t702 => (pelorusref01_Div.l0 k l0 t699 ([] : List Int) ([] : List Int) (wrap64 (t702 - 1)))))) = some (r1, r2, r3) := h
 clear h
 replace H := Option.bind_eq_some_iff.mp H
 obtain ⟨t699, A30, H⟩ := H
 (try dsimp only at H)
 have A3 := Aside0.mk A30
 clear A30
 by_cases c4 : (t699.length : Int) = 0
 ·rw [if_pos c4] at H
  have c4b0 : ((t699.length : Int) == 0) = true := beq_iff_eq.mpr c4
  have c4b1 : ((t699.length : Int) != 0) = false := bne_eq_false_iff_eq.mpr c4
  clear c4
  simp only [Option.some.injEq, Prod.mk.injEq] at H
  obtain ⟨rfl, rfl, rfl⟩ := H
  go_enter Try.func36, Try.ntmps36
  go_wp2_with (first | ((with_reducible refine gate_callee (f := 41) rfl ?_); refine gl_ (some 15) Try.func41 #[.slice A1 l1.length c1] ?_; (with_reducible refine (pelorusref01_Trim.calls k _ _ l1 t699 _ ?side1 ?side2 A3.out).mono ?_); (case side1 => exact kc_ HR1.out); (case side2 => exact HC1.out); rintro e w5 ⟨v700, rfl, ho0, hb⟩; refine ⟨_, rfl, ?_⟩; have HO701 := Aside0.mk (Kd.R_lower ho0 (below_size (bw_ HB.out))); replace HB := bq_ HB hb; (try clear hb); (try clear hb2); (try clear hk); (try clear hi); (try clear ho0); obtain ⟨Ao6, co6, eo6⟩ := Kd.R_slice HO701.out; subst eo6))
  go_ret3
  exact ⟨_, _, rf_, by first | exact Kd.R_nil _ _ _ _ _ | exact Kd.N_nil _ _ _ _ _ | exact Kd.V_nil _ _ _ _ _ | exact Kd.Q_nil _ _ _ _ _ | exact Kd.S_nil _ _ _ _ _, by first | exact Kd.R_nil _ _ _ _ _ | exact Kd.N_nil _ _ _ _ _ | exact Kd.V_nil _ _ _ _ _ | exact Kd.Q_nil _ _ _ _ _ | exact Kd.S_nil _ _ _ _ _, bw_ HB.out⟩
 ·rw [if_neg c4] at H
  have c4b0 : ((t699.length : Int) == 0) = false := beq_eq_false_iff_ne.mpr c4
  have c4b1 : ((t699.length : Int) != 0) = true := bne_iff_ne.mpr c4
  have c4b2 : ¬ (t699 = []) := fun h_ => c4 (by rw [h_]; rfl)
  replace H := Option.bind_eq_some_iff.mp H
  obtain ⟨t702, A70, H⟩ := H
  (try dsimp only at H)
  have A7 := Aside0.mk A70
  clear A70
  have H' := Aside0.mk H
  clear H
  go_enter Try.func36, Try.ntmps36
  go_wp2_with (first | ((with_reducible refine gate_callee (f := 41) rfl ?_); refine gl_ (some 15) Try.func41 #[.slice A1 l1.length c1] ?_; (with_reducible refine (pelorusref01_Trim.calls k _ _ l1 t699 _ ?side1 ?side2 A3.out).mono ?_); (case side1 => exact kc_ HR1.out); (case side2 => exact HC1.out); rintro e w8 ⟨v700, rfl, ho0, hb⟩; refine ⟨_, rfl, ?_⟩; have HO701 := Aside0.mk (Kd.R_lower ho0 (below_size (bw_ HB.out))); replace HB := bq_ HB hb; (try clear hb); (try clear hb2); (try clear hk); (try clear hi); (try clear ho0); obtain ⟨Ao9, co9, eo9⟩ := Kd.R_slice HO701.out; subst eo9) | ((with_reducible refine gate_callee (f := 57) rfl ?_); refine gl_ (some 20) Try.func57 #[.slice A0 l0.length c0] ?_; (with_reducible refine (pelorusref01_Len.calls k _ _ l0 t702 _ ?side1 ?side2 A7.out).mono ?_); (case side1 => exact kc_ (Kd.C_below HR0.out HB.out)); (case side2 => exact HC0.out); rintro e w10 ⟨rfl, hb⟩; refine ⟨_, rfl, ?_⟩; replace HO701 := Aside0.mk (Kd.R_below (kr_ HO701.out) hb); replace HB := bq_ HB hb; (try clear hb); (try clear hb2); (try clear hk); (try clear hi)))
  go_loopg [8, 9, 10] k (fun kq v8 v9 v10 w' => ∃ (x8_1 : List Int) (x9_1 : List Int) (x10_1 : Int), v10 = .int .i64 x10_1 ∧ Aside0 (pelorusref01_Div.l0 kq l0 t699 x8_1 x9_1 x10_1 = some (r1, r2, r3)) ∧ Aside0 (kq ≤ k) ∧ Aside0 (Kd.R (Kd.int .u32) 47 w' w.heap.size (fun k_ => some k_ ≠ (v8 : Value).ownBlock ∧ some k_ ≠ (v9 : Value).ownBlock) (.slice Ao9 t699.length co9) t699) ∧ Aside0 (Kd.R (Kd.int .u32) 47 w' w.heap.size (fun k_ => some k_ ≠ ((.slice Ao9 t699.length co9) : Value).ownBlock ∧ some k_ ≠ (v9 : Value).ownBlock) v8 x8_1) ∧ Aside0 (Kd.R (Kd.int .u32) 47 w' w.heap.size (fun k_ => some k_ ≠ ((.slice Ao9 t699.length co9) : Value).ownBlock ∧ some k_ ≠ (v8 : Value).ownBlock) v9 x9_1) ∧ Aside0 (Below w.heap.size w w'))
  case atStart => exact ⟨(([] : List Int)), (([] : List Int)), (wrap64 (t702 - 1)), (by first | rfl | (simp; done) | (simp [*]; done)), H', ⟨Nat.le_refl _⟩, ⟨by (with_reducible repeat (first | apply Kd.R_alloc | apply Kd.R_drewN | apply Kd.R_drew)); exact Kd.R_mono HO701.out (fun _ hk => ⟨(by simp [Value.ownBlock]), (by simp [Value.ownBlock])⟩)⟩, ⟨by first | exact Kd.R_nil _ _ _ _ _ | exact Kd.N_nil _ _ _ _ _ | exact Kd.V_nil _ _ _ _ _ | exact Kd.Q_nil _ _ _ _ _ | exact Kd.S_nil _ _ _ _ _⟩, ⟨by first | exact Kd.R_nil _ _ _ _ _ | exact Kd.N_nil _ _ _ _ _ | exact Kd.V_nil _ _ _ _ _ | exact Kd.Q_nil _ _ _ _ _ | exact Kd.S_nil _ _ _ _ _⟩, ⟨bw_ HB.out⟩⟩
  case round =>
   clear H'
   try clear c1
   try clear p2
   try clear c3
   try clear c4
   try clear c4b0
   try clear c4b1
   try clear c4b2
   try clear c5
   try clear p6
   obtain ⟨x8_1, x9_1, x10_1, rfl, HA, HK1, HO_7, HO_8, HO_9, HB⟩ := hrel
   cases gk with
   | zero => exact absurd HA.out (by simp [pelorusref01_Div.l0])
   | succ k1 =>
    have H := HA.out
    clear HA
    simp only [pelorusref01_Div.l0] at H
    by_cases c11 : x10_1 ≥ 0
    ·rw [if_pos c11] at H
     have c11b0 : decide (0 ≤ x10_1) = true := decide_eq_true c11
     clear c11
     replace H := Option.bind_eq_some_iff.mp H
     obtain ⟨t709, A120, H⟩ := H
     (try dsimp only at H)
     have A12 := Aside0.mk A120
     clear A120
     replace H := Option.bind_eq_some_iff.mp H
     obtain ⟨t712, A130, H⟩ := H
     (try dsimp only at H)
     have A13 := Aside0.mk A130
     clear A130
     have HC14 := Aside0.mk H
     clear H
     obtain ⟨Ao15, co15, eo15⟩ := Kd.R_slice HO_9.out
     subst eo15
     go_upto_if 32 with (first | ((with_reducible refine gate_callee (f := 46) rfl ?_); refine gl_ (some 28) Try.func46 #[.slice Ao15 x9_1.length co15, .slice Ao15 x9_1.length co15] ?_; (with_reducible refine (pelorusref01_Add.calls k1 _ _ x9_1 _ _ x9_1 t709 _ ?side1 ?side2 ?side3 ?side4 A12.out).mono ?_); (case side1 => exact kc_ (Kd.R_reads' HO_9.out).2.2); (case side2 => exact (Kd.R_reads' HO_9.out).2.1); (case side3 => exact kc_ (Kd.R_reads' HO_9.out).2.2); (case side4 => exact (Kd.R_reads' HO_9.out).2.1); rintro e w16 ⟨v710, rfl, ho0, hb⟩; refine ⟨_, rfl, ?_⟩; have HO711 := Aside0.mk (Kd.R_lower (Kd.R_new' (Kd.R_new' (Kd.R_new' ho0 (Kd.R_lt (kr_ HO_7.out))) (Kd.R_lt (kr_ HO_8.out))) (Kd.R_lt (kr_ HO_9.out))) (below_size (bw_ HB.out))); replace HO_7 := Aside0.mk (Kd.R_elder' (kr_ HO_7.out) (Kd.R_base ho0) hb); replace HO_8 := Aside0.mk (Kd.R_elder' (kr_ HO_8.out) (Kd.R_base ho0) hb); replace HO_9 := Aside0.mk (Kd.R_elder' (kr_ HO_9.out) (Kd.R_base ho0) hb); replace HB := bq_ HB hb; (try clear hb); (try clear hb2); (try clear hk); (try clear hi); (try clear ho0)) | ((with_reducible refine gate_callee (f := 58) rfl ?_); refine gl_ (some 31) Try.func58 #[.slice A0 l0.length c0, .int .i64 x10_1] ?_; (with_reducible refine (pelorusref01_bit.calls _ _ l0 x10_1 t712 _ ?side1 ?side2 A13.out).mono ?_); (case side1 => exact kc_ (Kd.C_below HR0.out HB.out)); (case side2 => exact HC0.out); rintro e w' ⟨rfl, ⟨nd, rfl⟩⟩; refine ⟨_, rfl, ?_⟩))
     (try simp only [Act.put, List.setIfInBounds_toArray, List.set_cons_zero, List.set_cons_succ])
     go_cut [9] (fun v9 wc => ∃ (kq : Nat) (x9_13 : List Int), Aside0 (pelorusref01_Div.j1 kq l0 t699 x8_1 x9_13 x10_1 = some (r1, r2, r3)) ∧ Aside0 (kq ≤ k1) ∧ Aside0 (Kd.R (Kd.int .u32) 47 wc w.heap.size (fun k_ => some k_ ≠ (u8 : Value).ownBlock ∧ some k_ ≠ (v9 : Value).ownBlock) (.slice Ao9 t699.length co9) t699) ∧ Aside0 (Kd.R (Kd.int .u32) 47 wc w.heap.size (fun k_ => some k_ ≠ ((.slice Ao9 t699.length co9) : Value).ownBlock ∧ some k_ ≠ (v9 : Value).ownBlock) u8 x8_1) ∧ Aside0 (Kd.R (Kd.int .u32) 47 wc w.heap.size (fun k_ => some k_ ≠ ((.slice Ao9 t699.length co9) : Value).ownBlock ∧ some k_ ≠ (u8 : Value).ownBlock) v9 x9_13) ∧ Aside0 (Below w.heap.size w wc))
     case first =>
      have H := HC14.out
      clear HC14
      by_cases c17 : t712 = true
      ·subst c17
       have H1 : ((pelorusref01_Add.f k1 t709 (([1] : List Int))).bind fun t716 => (pelorusref01_Div.j1 k1 l0 t699 x8_1 t716 x10_1)) = some (r1, r2, r3) := by rw [if_pos rfl] at H; exact H
       clear H
       have H := H1
       clear H1
       obtain ⟨y713, hy713⟩ : ∃ y_ : List Int, y_ = (([1] : List Int)) := ⟨_, rfl⟩
       replace H : ((pelorusref01_Add.f k1 t709 y713).bind fun t716 => (pelorusref01_Div.j1 k1 l0 t699 x8_1 t716 x10_1)) = some (r1, r2, r3) := by first | (rw [hy713]; with_reducible exact H) | (have H2_ := (Option.bind_some _ _).symm.trans H; rw [hy713]; with_reducible exact H2_) | (have H2_ := (Option.bind_some _ _).symm.trans H; with_reducible exact H2_) | with_reducible exact H | (rw [hy713]; exact H) | exact H
       have Ny713 := Aside0.mk hy713
       clear hy713
       replace H := Option.bind_eq_some_iff.mp H
       obtain ⟨t716, A180, H⟩ := H
       (try dsimp only at H)
       have A18 := Aside0.mk A180
       clear A180
       have H' := Aside0.mk H
       clear H
       go_wp2_with (first | ((with_reducible refine gate_dst (N := 34) rfl ?_); refine Kd.R_lit (Kd.int .u32) _ 47 ?hg (N := 34) ?hd (xs := ([1] : List Int)) (inner := [.int .u32 1]) (ok := fun _ => True) (okp := fun _ => True) ?hr ?hp (fun _ hk => hk) trivial (Below.refl _ _) (Nat.le_refl _) (by simp) ?_; (case hd => rfl); (case hg => rfl); (case hr => first | (go_simp; done) | (go_simp; rfl)); (case hp => exact (Reps.one (show Kd.M (Kd.int .u32) _ _ _ 1 [.int .u32 1] from rfl) (Reps.none _ _))); intro v714 w19 ho20 hb hg_ hnew_; clear hg_ hnew_; (first | rw [← Ny713.out] at ho20 | (simp only [Int.reduceToNat] at ho20; rw [← Ny713.out] at ho20)); have HO715 := Aside0.mk (Kd.R_lower (Kd.R_new' (Kd.R_new' (Kd.R_new' (Kd.R_new' ho20 (Kd.R_lt (kr_ HO_7.out))) (Kd.R_lt (kr_ HO_8.out))) (Kd.R_lt (kr_ HO_9.out))) (Kd.R_lt (kr_ HO711.out))) (below_size (bw_ HB.out))); replace HO_7 := Aside0.mk (Kd.R_elder' (kr_ HO_7.out) (Kd.R_base ho20) hb); replace HO_8 := Aside0.mk (Kd.R_elder' (kr_ HO_8.out) (Kd.R_base ho20) hb); replace HO_9 := Aside0.mk (Kd.R_elder' (kr_ HO_9.out) (Kd.R_base ho20) hb); replace HO711 := Aside0.mk (Kd.R_elder' (kr_ HO711.out) (Kd.R_base ho20) hb); replace HB := bq_ HB hb; clear hb ho20; obtain ⟨Ao21, co21, eo21⟩ := Kd.R_slice HO711.out; subst eo21; obtain ⟨Ao22, co22, eo22⟩ := Kd.R_slice HO715.out; subst eo22) | ((with_reducible refine gate_callee (f := 46) rfl ?_); refine gl_ (some 35) Try.func46 #[.slice Ao21 t709.length co21, .slice Ao22 y713.length co22] ?_; (with_reducible refine (pelorusref01_Add.calls k1 _ _ t709 _ _ y713 t716 _ ?side1 ?side2 ?side3 ?side4 A18.out).mono ?_); (case side1 => exact kc_ (Kd.R_reads' HO711.out).2.2); (case side2 => exact (Kd.R_reads' HO711.out).2.1); (case side3 => exact kc_ (Kd.R_reads' HO715.out).2.2); (case side4 => exact (Kd.R_reads' HO715.out).2.1); rintro e w23 ⟨v717, rfl, ho0, hb⟩; refine ⟨_, rfl, ?_⟩; have HO718 := Aside0.mk (Kd.R_lower (Kd.R_new' (Kd.R_new' (Kd.R_new' (Kd.R_new' (Kd.R_new' ho0 (Kd.R_lt (kr_ HO_7.out))) (Kd.R_lt (kr_ HO_8.out))) (Kd.R_lt (kr_ HO_9.out))) (Kd.R_lt (kr_ HO711.out))) (Kd.R_lt (kr_ HO715.out))) (below_size (bw_ HB.out))); replace HO_7 := Aside0.mk (Kd.R_elder' (kr_ HO_7.out) (Kd.R_base ho0) hb); replace HO_8 := Aside0.mk (Kd.R_elder' (kr_ HO_8.out) (Kd.R_base ho0) hb); replace HO_9 := Aside0.mk (Kd.R_elder' (kr_ HO_9.out) (Kd.R_base ho0) hb); replace HO711 := Aside0.mk (Kd.R_elder' (kr_ HO711.out) (Kd.R_base ho0) hb); replace HO715 := Aside0.mk (Kd.R_elder' (kr_ HO715.out) (Kd.R_base ho0) hb); replace HB := bq_ HB hb; (try clear hb); (try clear hb2); (try clear hk); (try clear hi); (try clear ho0)))
       go_meet
       case rel => exact ⟨_, (t716), H', ⟨by have := HK1.out; first | omega | exact Nat.le_refl _⟩, ⟨by (with_reducible repeat (first | apply Kd.R_alloc | apply Kd.R_drewN | apply Kd.R_drew)); exact Kd.R_mono HO_7.out (fun _ hk => by first | exact ⟨hk.1.1.1.1, hk.2⟩ | (simp only [ob_map] at hk ⊢; exact ⟨hk.1.1.1.1, hk.2⟩))⟩, ⟨by (with_reducible repeat (first | apply Kd.R_alloc | apply Kd.R_drewN | apply Kd.R_drew)); exact Kd.R_mono HO_8.out (fun _ hk => by first | exact ⟨hk.1.1.1.1, hk.2⟩ | (simp only [ob_map] at hk ⊢; exact ⟨hk.1.1.1.1, hk.2⟩))⟩, ⟨by (with_reducible repeat (first | apply Kd.R_alloc | apply Kd.R_drewN | apply Kd.R_drew)); exact Kd.R_mono HO718.out (fun _ hk => by first | exact ⟨hk.1.1.1.1.2, hk.1.1.1.2⟩ | (simp only [ob_map] at hk ⊢; exact ⟨hk.1.1.1.1.2, hk.1.1.1.2⟩))⟩, ⟨bw_ HB.out⟩⟩
      ·replace c17 := Bool.eq_false_iff.mpr c17
       subst c17
       have H1 : (pelorusref01_Div.j1 k1 l0 t699 x8_1 t709 x10_1) = some (r1, r2, r3) := by rw [if_neg (show ¬ (false = true) by decide)] at H; exact H
       clear H
       have H := H1
       clear H1
       have H' := Aside0.mk H
       clear H
       go_wp2
       go_meet
       case rel => exact ⟨_, (t709), H', ⟨by have := HK1.out; first | omega | exact Nat.le_refl _⟩, ⟨by (with_reducible repeat (first | apply Kd.R_alloc | apply Kd.R_drewN | apply Kd.R_drew)); exact Kd.R_mono HO_7.out (fun _ hk => by first | exact ⟨hk.1.1, hk.2⟩ | (simp only [ob_map] at hk ⊢; exact ⟨hk.1.1, hk.2⟩))⟩, ⟨by (with_reducible repeat (first | apply Kd.R_alloc | apply Kd.R_drewN | apply Kd.R_drew)); exact Kd.R_mono HO_8.out (fun _ hk => by first | exact ⟨hk.1.1, hk.2⟩ | (simp only [ob_map] at hk ⊢; exact ⟨hk.1.1, hk.2⟩))⟩, ⟨by (with_reducible repeat (first | apply Kd.R_alloc | apply Kd.R_drewN | apply Kd.R_drew)); exact Kd.R_mono HO711.out (fun _ hk => by first | exact ⟨hk.1.1.2, hk.1.2⟩ | (simp only [ob_map] at hk ⊢; exact ⟨hk.1.1.2, hk.1.2⟩))⟩, ⟨bw_ HB.out⟩⟩
     case rest =>
      clear HC14
      try clear c1
      try clear p2
      try clear c3
      try clear c4
      try clear c4b0
      try clear c4b1
      try clear c4b2
      try clear c5
      try clear p6
      try clear c11
      try clear c11b0
      try clear c17
      try clear p2
      try clear p6
      obtain ⟨kq, x9_13, HA, HJ13, HO_7, HO_8, HO_9, HB⟩ := hcut
      cases kq with
      | zero => exact absurd HA.out (by simp [pelorusref01_Div.j1])
      | succ kj13 =>
       have H := HA.out
       clear HA
       simp only [pelorusref01_Div.j1] at H
       replace H := Option.bind_eq_some_iff.mp H
       obtain ⟨⟨t719, t720⟩, A240, H⟩ := H
       (try dsimp only at H)
       have A24 := Aside0.mk A240
       clear A240
       by_cases c25 : t720 = true
       ·subst c25
        have H1 : ((pelorusref01_set.f kj13 x8_1 x10_1).bind fun t723 => (pelorusref01_Div.l0 kj13 l0 t699 t723 t719 (wrap64 (x10_1 - 1)))) = some (r1, r2, r3) := by rw [if_pos rfl] at H; exact H
        clear H
        have H := H1
        clear H1
        replace H := Option.bind_eq_some_iff.mp H
        obtain ⟨t723, A260, H⟩ := H
        (try dsimp only at H)
        have A26 := Aside0.mk A260
        clear A260
        have H' := Aside0.mk H
        clear H
        obtain ⟨Ao27, co27, eo27⟩ := Kd.R_slice HO_9.out
        subst eo27
        go_wp2_with (first | ((with_reducible refine gate_callee (f := 47) rfl ?_); refine gl_ (some 39) Try.func47 #[.slice Ao27 x9_13.length co27, .slice Ao9 t699.length co9] ?_; (with_reducible refine (pelorusref01_Sub.calls kj13 _ _ x9_13 _ _ t699 t719 true _ ?side1 ?side2 ?side3 ?side4 A24.out).mono ?_); (case side1 => exact kc_ (Kd.R_reads' HO_9.out).2.2); (case side2 => exact (Kd.R_reads' HO_9.out).2.1); (case side3 => exact kc_ (Kd.R_reads' HO_7.out).2.2); (case side4 => exact (Kd.R_reads' HO_7.out).2.1); rintro e w28 ⟨v721, rfl, ho0, hb⟩; refine ⟨_, rfl, ?_⟩; have HO722 := Aside0.mk (Kd.R_lower (Kd.R_new' (Kd.R_new' (Kd.R_new' ho0 (Kd.R_lt (kr_ HO_7.out))) (Kd.R_lt (kr_ HO_8.out))) (Kd.R_lt (kr_ HO_9.out))) (below_size (bw_ HB.out))); replace HO_7 := Aside0.mk (Kd.R_elder' (kr_ HO_7.out) (Kd.R_base ho0) hb); replace HO_8 := Aside0.mk (Kd.R_elder' (kr_ HO_8.out) (Kd.R_base ho0) hb); replace HO_9 := Aside0.mk (Kd.R_elder' (kr_ HO_9.out) (Kd.R_base ho0) hb); replace HB := bq_ HB hb; (try clear hb); (try clear hb2); (try clear hk); (try clear hi); (try clear ho0); obtain ⟨Ao29, co29, eo29⟩ := Kd.R_slice HO_8.out; subst eo29) | ((with_reducible refine gate_callee (f := 59) rfl ?_); refine gl_ (some 46) Try.func59 #[.slice Ao29 x8_1.length co29, .int .i64 x10_1] ?_; (with_reducible refine (pelorusref01_set.calls kj13 _ _ x8_1 x10_1 t723 _ ?side1 ?side2 A26.out).mono ?_); (case side1 => exact kc_ (Kd.R_reads' HO_8.out).2.2); (case side2 => exact (Kd.R_reads' HO_8.out).2.1); rintro e w30 ⟨v724, rfl, ho0, hb⟩; refine ⟨_, rfl, ?_⟩; have HO725 := Aside0.mk (Kd.R_lower (Kd.R_new' (Kd.R_new' (Kd.R_new' (Kd.R_new' ho0 (Kd.R_lt (kr_ HO_7.out))) (Kd.R_lt (kr_ HO_8.out))) (Kd.R_lt (kr_ HO_9.out))) (Kd.R_lt (kr_ HO722.out))) (below_size (bw_ HB.out))); replace HO_7 := Aside0.mk (Kd.R_elder' (kr_ HO_7.out) (Kd.R_base ho0) hb); replace HO_8 := Aside0.mk (Kd.R_elder' (kr_ HO_8.out) (Kd.R_base ho0) hb); replace HO_9 := Aside0.mk (Kd.R_elder' (kr_ HO_9.out) (Kd.R_base ho0) hb); replace HO722 := Aside0.mk (Kd.R_elder' (kr_ HO722.out) (Kd.R_base ho0) hb); replace HB := bq_ HB hb; (try clear hb); (try clear hb2); (try clear hk); (try clear hi); (try clear ho0)))
        go_roundg kj13
        case measure => have := HK1.out; have := HJ13.out; omega
        case rel => exact ⟨(t723), (t719), (wrap64 (x10_1 - 1)), (by first | rfl | (simp; done) | (simp [*]; done)), H', ⟨by have := HK1.out; have := HJ13.out; omega⟩, ⟨by (with_reducible repeat (first | apply Kd.R_alloc | apply Kd.R_drewN | apply Kd.R_drew)); exact Kd.R_mono HO_7.out (fun _ hk => by first | exact ⟨hk.2, hk.1.2⟩ | (simp only [ob_map] at hk ⊢; exact ⟨hk.2, hk.1.2⟩))⟩, ⟨by (with_reducible repeat (first | apply Kd.R_alloc | apply Kd.R_drewN | apply Kd.R_drew)); exact Kd.R_mono HO725.out (fun _ hk => by first | exact ⟨hk.1.1.1.2, hk.2⟩ | (simp only [ob_map] at hk ⊢; exact ⟨hk.1.1.1.2, hk.2⟩))⟩, ⟨by (with_reducible repeat (first | apply Kd.R_alloc | apply Kd.R_drewN | apply Kd.R_drew)); exact Kd.R_mono HO722.out (fun _ hk => by first | exact ⟨hk.1.1.1.2, hk.2⟩ | (simp only [ob_map] at hk ⊢; exact ⟨hk.1.1.1.2, hk.2⟩))⟩, ⟨bw_ HB.out⟩⟩
       ·replace c25 := Bool.eq_false_iff.mpr c25
        subst c25
        have H1 : (pelorusref01_Div.l0 kj13 l0 t699 x8_1 x9_13 (wrap64 (x10_1 - 1))) = some (r1, r2, r3) := by rw [if_neg (show ¬ (false = true) by decide)] at H; exact H
        clear H
        have H := H1
        clear H1
        have H' := Aside0.mk H
        clear H
        obtain ⟨Ao31, co31, eo31⟩ := Kd.R_slice HO_9.out
        subst eo31
        go_wp2_with (first | ((with_reducible refine gate_callee (f := 47) rfl ?_); refine gl_ (some 39) Try.func47 #[.slice Ao31 x9_13.length co31, .slice Ao9 t699.length co9] ?_; (with_reducible refine (pelorusref01_Sub.calls kj13 _ _ x9_13 _ _ t699 t719 false _ ?side1 ?side2 ?side3 ?side4 A24.out).mono ?_); (case side1 => exact kc_ (Kd.R_reads' HO_9.out).2.2); (case side2 => exact (Kd.R_reads' HO_9.out).2.1); (case side3 => exact kc_ (Kd.R_reads' HO_7.out).2.2); (case side4 => exact (Kd.R_reads' HO_7.out).2.1); rintro e w32 ⟨v721, rfl, ho0, hb⟩; refine ⟨_, rfl, ?_⟩; have HO722 := Aside0.mk (Kd.R_lower (Kd.R_new' (Kd.R_new' (Kd.R_new' ho0 (Kd.R_lt (kr_ HO_7.out))) (Kd.R_lt (kr_ HO_8.out))) (Kd.R_lt (kr_ HO_9.out))) (below_size (bw_ HB.out))); replace HO_7 := Aside0.mk (Kd.R_elder' (kr_ HO_7.out) (Kd.R_base ho0) hb); replace HO_8 := Aside0.mk (Kd.R_elder' (kr_ HO_8.out) (Kd.R_base ho0) hb); replace HO_9 := Aside0.mk (Kd.R_elder' (kr_ HO_9.out) (Kd.R_base ho0) hb); replace HB := bq_ HB hb; (try clear hb); (try clear hb2); (try clear hk); (try clear hi); (try clear ho0)))
        go_roundg kj13
        case measure => have := HK1.out; have := HJ13.out; omega
        case rel => exact ⟨(x8_1), (x9_13), (wrap64 (x10_1 - 1)), (by first | rfl | (simp; done) | (simp [*]; done)), H', ⟨by have := HK1.out; have := HJ13.out; omega⟩, ⟨by (with_reducible repeat (first | apply Kd.R_alloc | apply Kd.R_drewN | apply Kd.R_drew)); exact Kd.R_mono HO_7.out (fun _ hk => by first | exact ⟨hk.1.1, hk.1.2⟩ | (simp only [ob_map] at hk ⊢; exact ⟨hk.1.1, hk.1.2⟩))⟩, ⟨by (with_reducible repeat (first | apply Kd.R_alloc | apply Kd.R_drewN | apply Kd.R_drew)); exact Kd.R_mono HO_8.out (fun _ hk => by first | exact ⟨hk.1.1, hk.1.2⟩ | (simp only [ob_map] at hk ⊢; exact ⟨hk.1.1, hk.1.2⟩))⟩, ⟨by (with_reducible repeat (first | apply Kd.R_alloc | apply Kd.R_drewN | apply Kd.R_drew)); exact Kd.R_mono HO_9.out (fun _ hk => by first | exact ⟨hk.1.1, hk.1.2⟩ | (simp only [ob_map] at hk ⊢; exact ⟨hk.1.1, hk.1.2⟩))⟩, ⟨bw_ HB.out⟩⟩
    ·rw [if_neg c11] at H
     have c11b0 : decide (0 ≤ x10_1) = false := decide_eq_false c11
     clear c11
     replace H := Option.bind_eq_some_iff.mp H
     obtain ⟨t703, A330, H⟩ := H
     (try dsimp only at H)
     have A33 := Aside0.mk A330
     clear A330
     replace H := Option.bind_eq_some_iff.mp H
     obtain ⟨t706, A340, H⟩ := H
     (try dsimp only at H)
     have A34 := Aside0.mk A340
     clear A340
     simp only [Option.some.injEq, Prod.mk.injEq] at H
     obtain ⟨rfl, rfl, rfl⟩ := H
     obtain ⟨Ao35, co35, eo35⟩ := Kd.R_slice HO_8.out
     subst eo35
     go_wp2_with (first | ((with_reducible refine gate_callee (f := 41) rfl ?_); refine gl_ (some 48) Try.func41 #[.slice Ao35 x8_1.length co35] ?_; (with_reducible refine (pelorusref01_Trim.calls k1 _ _ x8_1 t703 _ ?side1 ?side2 A33.out).mono ?_); (case side1 => exact kc_ (Kd.R_reads' HO_8.out).2.2); (case side2 => exact (Kd.R_reads' HO_8.out).2.1); rintro e w36 ⟨v704, rfl, ho0, hb⟩; refine ⟨_, rfl, ?_⟩; have HO705 := Aside0.mk (Kd.R_lower (Kd.R_new' (Kd.R_new' (Kd.R_new' ho0 (Kd.R_lt (kr_ HO_7.out))) (Kd.R_lt (kr_ HO_8.out))) (Kd.R_lt (kr_ HO_9.out))) (below_size (bw_ HB.out))); replace HO_7 := Aside0.mk (Kd.R_elder' (kr_ HO_7.out) (Kd.R_base ho0) hb); replace HO_8 := Aside0.mk (Kd.R_elder' (kr_ HO_8.out) (Kd.R_base ho0) hb); replace HO_9 := Aside0.mk (Kd.R_elder' (kr_ HO_9.out) (Kd.R_base ho0) hb); replace HB := bq_ HB hb; (try clear hb); (try clear hb2); (try clear hk); (try clear hi); (try clear ho0); obtain ⟨Ao37, co37, eo37⟩ := Kd.R_slice HO_9.out; subst eo37) | ((with_reducible refine gate_callee (f := 41) rfl ?_); refine gl_ (some 50) Try.func41 #[.slice Ao37 x9_1.length co37] ?_; (with_reducible refine (pelorusref01_Trim.calls k1 _ _ x9_1 t706 _ ?side1 ?side2 A34.out).mono ?_); (case side1 => exact kc_ (Kd.R_reads' HO_9.out).2.2); (case side2 => exact (Kd.R_reads' HO_9.out).2.1); rintro e w38 ⟨v707, rfl, ho0, hb⟩; refine ⟨_, rfl, ?_⟩; have HO708 := Aside0.mk (Kd.R_lower (Kd.R_new' (Kd.R_new' (Kd.R_new' (Kd.R_new' ho0 (Kd.R_lt (kr_ HO_7.out))) (Kd.R_lt (kr_ HO_8.out))) (Kd.R_lt (kr_ HO_9.out))) (Kd.R_lt (kr_ HO705.out))) (below_size (bw_ HB.out))); replace HO_7 := Aside0.mk (Kd.R_elder' (kr_ HO_7.out) (Kd.R_base ho0) hb); replace HO_8 := Aside0.mk (Kd.R_elder' (kr_ HO_8.out) (Kd.R_base ho0) hb); replace HO_9 := Aside0.mk (Kd.R_elder' (kr_ HO_9.out) (Kd.R_base ho0) hb); replace HO705 := Aside0.mk (Kd.R_elder' (kr_ HO705.out) (Kd.R_base ho0) hb); replace HB := bq_ HB hb; (try clear hb); (try clear hb2); (try clear hk); (try clear hi); (try clear ho0)))
     go_ret3
     exact ⟨_, _, rf_, by (with_reducible repeat (first | apply Kd.R_alloc | apply Kd.R_drewN | apply Kd.R_drew)); exact Kd.R_mono HO705.out (fun _ hk => hk.2), by (with_reducible repeat (first | apply Kd.R_alloc | apply Kd.R_drewN | apply Kd.R_drew)); exact Kd.R_mono HO708.out (fun _ hk => hk.2), bw_ HB.out⟩

end Go.Proofs.Ytbejmpocgnldnaa.PA
