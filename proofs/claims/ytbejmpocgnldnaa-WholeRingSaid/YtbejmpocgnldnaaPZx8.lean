-- Laid by this work's own program; Lean checks it.
import Derived.Test.YtbejmpocgnldnaaPZx0
import Derived.Test.YtbejmpocgnldnaaPZx1
import Derived.Test.YtbejmpocgnldnaaPZx2
namespace Go.Proofs.Ytbejmpocgnldnaa.PZ
open Go.RowKit Go.Proofs.YtbejmpocgnldnaaW.PrintWords Go.Proofs.YtbejmpocgnldnaaW.PrintLast Go.Proofs.YtbejmpocgnldnaaW.PrintMore
attribute [local go_sem] max2_int min2_int max_two min_two max_three min_three max_four min_four   -- for this text's walks alone
set_option linter.unusedVariables false
set_option linter.unusedSimpArgs false

attribute [local go_sem ↓ high] isSome_set_
/-! ### nat_Mul: function 38 -/
set_option maxHeartbeats 8000000 in
set_option maxRecDepth 100000 in
theorem nat_Mul.calls (k : Nat) (A0 : Option Addr) (c0 : Nat) (l0 : List Int) (A1 : Option Addr) (c1 : Nat) (l1 : List Int) (r : List Int) (w : World) (hr0 : Kd.C (Kd.int .u32) w A0 l0.length l0) (hc0 : l0.length ≤ c0) (hr1 : Kd.C (Kd.int .u32) w A1 l1.length l1) (hc1 : l1.length ≤ c1) (h : nat_Mul.f k l0 l1 = some r) :
  Calls Try.prog 38 #[.slice A0 l0.length c0, .slice A1 l1.length c1] w fun e w' => ∃ v0_ : Value, e = .returned (v0_) ∧ Kd.R (Kd.int .u32) 47 w' w.heap.size (fun _ => True) v0_ r ∧ Below w.heap.size w w' := by
 have HR0 := Aside0.mk hr0
 have HC0 := Aside0.mk hc0
 clear hr0 hc0
 have HR1 := Aside0.mk hr1
 have HC1 := Aside0.mk hc1
 clear hr1 hc1
 have HB := Aside0.mk (Below.refl w.heap.size w)
 have H : (if 0 ≤ (wrap64 ((l0.length : Int) + (l1.length : Int))) then (if (wrap64 ((l0.length : Int) + (l1.length : Int)) : Int).toNat ≤ 70368744177664 then (nat_Mul.l0 k l1 (List.replicate (wrap64 ((l0.length : Int) + (l1.length : Int)) : Int).toNat 0) l0 (l0.length : Int) 0) else (none)) else (none)) = some r := h
 clear h
 obtain ⟨ji3, hji3⟩ : ∃ j_ : Int, (wrap64 ((l0.length : Int) + (l1.length : Int))) = j_ := ⟨_, rfl⟩
 (first | rw [hji3] at H | simp only [hji3] at H)
 have hji3w : (IntKind.i64.wrap ((l0.length : Int) + (l1.length : Int))) = ji3 := (i64_w _).trans hji3
 by_cases c4 : 0 ≤ (ji3)
 ·rw [if_pos c4] at H
  have c4b0 := eq_true c4
  have c4b1 : decide (0 ≤ (ji3)) = true := decide_eq_true c4
  clear c4
  by_cases c5 : (ji3 : Int).toNat ≤ 70368744177664
  ·rw [if_pos c5] at H
   have c5b0 := eq_true c5
   have c5b1 : decide ((ji3 : Int).toNat ≤ 70368744177664) = true := decide_eq_true c5
   clear c5
   obtain ⟨y388, hy388⟩ : ∃ y_ : List Int, y_ = (List.replicate (ji3 : Int).toNat 0) := ⟨_, rfl⟩
   replace H : (nat_Mul.l0 k l1 y388 l0 (l0.length : Int) 0) = some r := by first | (rw [hy388]; with_reducible exact H) | (have H2_ := (Option.bind_some _ _).symm.trans H; rw [hy388]; with_reducible exact H2_) | (have H2_ := (Option.bind_some _ _).symm.trans H; with_reducible exact H2_) | with_reducible exact H | (rw [hy388]; exact H) | exact H
   have Ny388 := Aside0.mk hy388
   clear hy388
   have H' := Aside0.mk H
   clear H
   go_enter Try.func38, Try.ntmps38
   go_wp2_with (first | ((with_reducible refine gate_dst (N := 17) rfl ?_); refine Kd.R_make (Kd.int .u32) _ 47 rfl (N := 17) rfl 22 _ _ rfl ji3 rfl rfl Try.underlying22 (.int .u32 0) 4 info47 rfl (by decide) (by omega) 0 (ok := fun _ => True) (okp := fun _ => True) rfl (fun _ hk => hk) trivial (of_decide_eq_true (by first | (with_reducible assumption) | assumption)) (Nat.le_trans (Nat.mul_le_mul_right _ (of_decide_eq_true (by first | (with_reducible assumption) | assumption) : ji3.toNat ≤ 70368744177664)) (by omega)) (Below.refl _ _) (Nat.le_refl _) ?_; intro v389 w6 ho7 hb hg_ hnew_; clear hg_ hnew_; (first | rw [← Ny388.out] at ho7 | (simp only [Int.reduceToNat] at ho7; rw [← Ny388.out] at ho7)); have HO390 := Aside0.mk (Kd.R_lower ho7 (below_size (bw_ HB.out))); replace HB := bq_ HB hb; clear hb ho7))
   go_loopg [20] k (fun kq v20 w' => ∃ (x5_1 : List Int) (x20_1 : Int), v20 = .int .i64 x20_1 ∧ Aside0 (nat_Mul.l0 kq l1 x5_1 l0 (l0.length : Int) x20_1 = some r) ∧ Aside0 (kq ≤ k) ∧ Aside0 (Kd.R (Kd.int .u32) 47 w' w.heap.size (fun _ => True) v389 x5_1) ∧ Aside0 (Below w.heap.size w w'))
   case atStart => exact ⟨(y388), (0), (by first | rfl | (simp; done) | (simp [*]; done)), H', ⟨Nat.le_refl _⟩, ⟨by (with_reducible repeat (first | apply Kd.R_alloc | apply Kd.R_drewN | apply Kd.R_drew)); exact HO390.out⟩, ⟨bw_ HB.out⟩⟩
   case round =>
    clear H'
    try clear c1
    try clear p2
    try clear c3
    try clear c4
    try clear c4b0
    try clear c4b1
    try clear c5
    try clear c5b0
    try clear c5b1
    try clear p6
    obtain ⟨x5_1, x20_1, rfl, HA, HK1, HO_5, HB⟩ := hrel
    cases gk with
    | zero => exact absurd HA.out (by simp [nat_Mul.l0])
    | succ k1 =>
     have H := HA.out
     clear HA
     simp only [nat_Mul.l0] at H
     by_cases c8 : x20_1 < (l0.length : Int)
     ·rw [if_pos c8] at H
      have c8b0 : decide (x20_1 < (l0.length : Int)) = true := decide_eq_true c8
      clear c8
      by_cases c9 : 0 ≤ x20_1
      ·rw [if_pos c9] at H
       have c9b0 : decide (0 ≤ x20_1) = true := decide_eq_true c9
       clear c9
       by_cases c10 : x20_1 < (l0.length : Int)
       ·rw [if_pos c10] at H
        have c10b0 : decide (x20_1 < (l0.length : Int)) = true := decide_eq_true c10
        clear c10
        have H' := Aside0.mk H
        clear H
        have p394 : 0 ≤ (x20_1 : Int) := of_decide_eq_true (by first | (with_reducible assumption) | assumption)
        have q394 : x20_1 < (l0.length : Int) := of_decide_eq_true (by first | (with_reducible assumption) | assumption)
        obtain ⟨ad394, e394, hx394_0⟩ := Kd.at_int HR0.out x20_1 p394 q394
        cases e394
        replace hx394_0 := (HB.out.cell (World.block_lt_of_cell? w _ hx394_0)).trans hx394_0
        replace p394 := eq_true p394
        replace q394 := eq_true q394
        go_wp2
        go_loopg [8, 27] k1 (fun kq v8 v27 w' => ∃ (x5_2 : List Int) (x8_2 : Int) (x27_2 : Int), v8 = .int .u64 x8_2 ∧ v27 = .int .i64 x27_2 ∧ Aside0 (nat_Mul.l1 kq l1 x5_2 x20_1 (rd l0 x20_1) x8_2 l0 (l0.length : Int) x20_1 l1 (l1.length : Int) x27_2 = some r) ∧ Aside0 (kq ≤ k1) ∧ Aside0 (Kd.R (Kd.int .u32) 47 w' w.heap.size (fun _ => True) v389 x5_2) ∧ Aside0 (Below w.heap.size w w'))
        case atStart => exact ⟨(x5_1), (0), (0), (by first | rfl | (simp; done) | (simp [*]; done)), (by first | rfl | (simp; done) | (simp [*]; done)), H', ⟨Nat.le_refl _⟩, ⟨by (with_reducible repeat (first | apply Kd.R_alloc | apply Kd.R_drewN | apply Kd.R_drew)); exact HO_5.out⟩, ⟨bw_ HB.out⟩⟩
        case round =>
         clear H'
         try clear c1
         try clear p2
         try clear c3
         try clear p3
         try clear q3
         try clear hx3
         try clear c4
         try clear c4b0
         try clear c4b1
         try clear c5
         try clear c5b0
         try clear c5b1
         try clear p6
         try clear c8
         try clear c8b0
         try clear c9
         try clear c9b0
         try clear c10
         try clear c10b0
         try clear hx394_0
         try clear p2
         try clear p394
         try clear p6
         try clear q394
         obtain ⟨x5_2, x8_2, x27_2, rfl, rfl, HA, HK2, HO_5, HB⟩ := hrel
         cases gk with
         | zero => exact absurd HA.out (by simp [nat_Mul.l1])
         | succ k2 =>
          have H := HA.out
          clear HA
          simp only [nat_Mul.l1] at H
          by_cases c11 : x27_2 < (l1.length : Int)
          ·rw [if_pos c11] at H
           have c11b0 : decide (x27_2 < (l1.length : Int)) = true := decide_eq_true c11
           clear c11
           by_cases c12 : 0 ≤ x27_2
           ·rw [if_pos c12] at H
            have c12b0 : decide (0 ≤ x27_2) = true := decide_eq_true c12
            clear c12
            by_cases c13 : x27_2 < (l1.length : Int)
            ·rw [if_pos c13] at H
             have c13b0 : decide (x27_2 < (l1.length : Int)) = true := decide_eq_true c13
             clear c13
             obtain ⟨ji14, hji14⟩ : ∃ j_ : Int, (wrap64 (x20_1 + x27_2)) = j_ := ⟨_, rfl⟩
             (first | rw [hji14] at H | simp only [hji14] at H)
             have hji14w : (IntKind.i64.wrap (x20_1 + x27_2)) = ji14 := (i64_w _).trans hji14
             by_cases c15 : 0 ≤ (ji14)
             ·rw [if_pos c15] at H
              have c15b0 : decide (0 ≤ (ji14)) = true := decide_eq_true c15
              clear c15
              by_cases c16 : (ji14) < (x5_2.length : Int)
              ·rw [if_pos c16] at H
               have c16b0 : decide ((ji14) < (x5_2.length : Int)) = true := decide_eq_true c16
               clear c16
               obtain ⟨y397, hy397⟩ : ∃ y_ : List Int, y_ = (x5_2.set ((ji14) : Int).toNat ((IntKind.u64.wrap ((IntKind.u64.wrap ((IntKind.u64.wrap ((IntKind.u64.wrap ((rd l0 x20_1))) * (IntKind.u64.wrap (rd l1 x27_2)))) + (IntKind.u64.wrap (rd x5_2 (ji14))))) + x8_2)) % 4294967296)) := ⟨_, rfl⟩
               replace H : (nat_Mul.l1 k2 l1 y397 x20_1 (rd l0 x20_1) ((IntKind.u64.wrap ((IntKind.u64.wrap ((IntKind.u64.wrap ((IntKind.u64.wrap ((rd l0 x20_1))) * (IntKind.u64.wrap (rd l1 x27_2)))) + (IntKind.u64.wrap (rd x5_2 (ji14))))) + x8_2)) / 4294967296) l0 (l0.length : Int) x20_1 l1 (l1.length : Int) (wrap64 (x27_2 + 1))) = some r := by first | (rw [hy397]; with_reducible exact H) | (have H2_ := (Option.bind_some _ _).symm.trans H; rw [hy397]; with_reducible exact H2_) | (have H2_ := (Option.bind_some _ _).symm.trans H; with_reducible exact H2_) | with_reducible exact H | (rw [hy397]; exact H) | exact H
               have Ny397 := Aside0.mk hy397
               clear hy397
               have H' := Aside0.mk H
               clear H
               have p395 : 0 ≤ (x27_2 : Int) := of_decide_eq_true (by first | (with_reducible assumption) | assumption)
               have q395 : x27_2 < (l1.length : Int) := of_decide_eq_true (by first | (with_reducible assumption) | assumption)
               obtain ⟨ad395, e395, hx395_0⟩ := Kd.at_int HR1.out x27_2 p395 q395
               cases e395
               replace hx395_0 := (HB.out.cell (World.block_lt_of_cell? w _ hx395_0)).trans hx395_0
               replace p395 := eq_true p395
               replace q395 := eq_true q395
               obtain ⟨Ao18, co18, eo18⟩ := Kd.R_slice HO_5.out
               subst eo18
               have p396 : 0 ≤ ((ji14) : Int) := of_decide_eq_true (by first | (with_reducible assumption) | assumption)
               have q396 : (ji14) < (x5_2.length : Int) := of_decide_eq_true (by first | (with_reducible assumption) | assumption)
               obtain ⟨ad396, e396, hx396_0⟩ := Kd.at_int (Kd.R_reads' HO_5.out).2.2 (ji14) p396 q396
               cases e396
               replace p396 := eq_true p396
               replace q396 := eq_true q396
               have p17 : 0 ≤ ((ji14) : Int) := of_decide_eq_true (by first | (with_reducible assumption) | assumption)
               have q17 : ((ji14) : Int) < ((x5_2.length : Int) : Int) := of_decide_eq_true (by first | (with_reducible assumption) | assumption)
               obtain ⟨go17, co17, eo17, gb17, gl17, cl17, HG17⟩ := Kd.R_form HO_5.out (by omega)
               (first | cases eo17 | (injection eo17 with ea_ en_ ec_; (first | subst ea_ | (injection ea_ with ea_; subst ea_)); subst ec_; clear en_))
               have GB17 := Aside0.mk gb17
               have GG17 := Aside0.mk HG17
               clear gb17 gl17 HG17
               (first | simp only [add_plain] at hx396_0 | skip)
               obtain ⟨hx17_0, hf17_0⟩ := Kd.R_celln 0 HO_5.out ((ji14) : Int) p17 q17
               replace p17 := eq_true p17
               replace q17 := eq_true q17
               have HP19 := Kd.R_putg HO_5.out ((ji14) : Int) ((IntKind.u64.wrap ((IntKind.u64.wrap ((IntKind.u64.wrap ((IntKind.u64.wrap ((rd l0 x20_1))) * (IntKind.u64.wrap (rd l1 x27_2)))) + (IntKind.u64.wrap (rd x5_2 (ji14))))) + x8_2)) % 4294967296)
               go_wp2_with (first | ((with_reducible refine gate_store (t := 47) (p := 55) rfl ?_); refine store_event (t := 47) (p := 55) (v := ?vo_w20) (w1 := (wr.setCell ⟨go17, ((ji14) : Int).toNat, none⟩ (.int .u32 ((IntKind.u64.wrap ((IntKind.u64.wrap ((IntKind.u64.wrap ((IntKind.u64.wrap ((rd l0 x20_1))) * (IntKind.u64.wrap (rd l1 x27_2)))) + (IntKind.u64.wrap (rd x5_2 (ji14))))) + x8_2)) % 4294967296)))) ?hg ?ho ?hn ?hr ?_; (case ho => rfl); (case hg => rfl); (case hn => rfl); (case hr => first | (go_simp; done) | (go_simp; rfl)); intro w20 hw; have hg : wr.grownBy w20 (some go17) := (by rw [hw]; exact HP19.2); have hp_ : Kd.R (Kd.int .u32) 47 w20 w.heap.size (fun _ => True) (.slice (some ⟨go17, 0, none⟩) x5_2.length co18) y397 := (by rw [hw, Ny397.out]; exact HP19.1); clear HP19; have n0_ := Aside0.mk (hp_); have n1_ := Aside0.mk ((by rw [hw]; exact below_set (HB.out) GB17.out : Below w.heap.size w w20)); clear HO_5; clear HB; have HO_5 := n0_; have HB := n1_; clear n0_ n1_; clear hg hw hp_))
               go_roundg k2
               case measure => have := HK1.out; have := HK2.out; omega
               case rel => exact ⟨(y397), ((IntKind.u64.wrap ((IntKind.u64.wrap ((IntKind.u64.wrap ((IntKind.u64.wrap ((rd l0 x20_1))) * (IntKind.u64.wrap (rd l1 x27_2)))) + (IntKind.u64.wrap (rd x5_2 (ji14))))) + x8_2)) / 4294967296), (wrap64 (x27_2 + 1)), (by first | rfl | (simp; done) | (simp only [← hji14] <;> (first | rfl | simp)) | (simp [*]; done)), (by first | rfl | (simp; done) | (simp [*]; done)), H', ⟨by have := HK1.out; have := HK2.out; omega⟩, ⟨by (with_reducible repeat (first | apply Kd.R_alloc | apply Kd.R_drewN | apply Kd.R_drew)); exact HO_5.out⟩, ⟨bw_ HB.out⟩⟩
              ·rw [if_neg c16] at H
               exact absurd H (by simp)
             ·rw [if_neg c15] at H
              exact absurd H (by simp)
            ·rw [if_neg c13] at H
             exact absurd H (by simp)
           ·rw [if_neg c12] at H
            exact absurd H (by simp)
          ·rw [if_neg c11] at H
           have c11b0 : decide (x27_2 < (l1.length : Int)) = false := decide_eq_false c11
           clear c11
           obtain ⟨ji21, hji21⟩ : ∃ j_ : Int, (wrap64 (x20_1 + (l1.length : Int))) = j_ := ⟨_, rfl⟩
           (first | rw [hji21] at H | simp only [hji21] at H)
           have hji21w : (IntKind.i64.wrap (x20_1 + (l1.length : Int))) = ji21 := (i64_w _).trans hji21
           by_cases c22 : 0 ≤ (ji21)
           ·rw [if_pos c22] at H
            have c22b0 : decide (0 ≤ (ji21)) = true := decide_eq_true c22
            clear c22
            by_cases c23 : (ji21) < (x5_2.length : Int)
            ·rw [if_pos c23] at H
             have c23b0 : decide ((ji21) < (x5_2.length : Int)) = true := decide_eq_true c23
             clear c23
             obtain ⟨y398, hy398⟩ : ∃ y_ : List Int, y_ = (x5_2.set ((ji21) : Int).toNat ((x8_2) % 4294967296)) := ⟨_, rfl⟩
             replace H : (nat_Mul.l0 k2 l1 y398 l0 (l0.length : Int) (wrap64 (x20_1 + 1))) = some r := by first | (rw [hy398]; with_reducible exact H) | (have H2_ := (Option.bind_some _ _).symm.trans H; rw [hy398]; with_reducible exact H2_) | (have H2_ := (Option.bind_some _ _).symm.trans H; with_reducible exact H2_) | with_reducible exact H | (rw [hy398]; exact H) | exact H
             have Ny398 := Aside0.mk hy398
             clear hy398
             have H' := Aside0.mk H
             clear H
             have p24 : 0 ≤ ((ji21) : Int) := of_decide_eq_true (by first | (with_reducible assumption) | assumption)
             have q24 : ((ji21) : Int) < ((x5_2.length : Int) : Int) := of_decide_eq_true (by first | (with_reducible assumption) | assumption)
             obtain ⟨go24, co24, eo24, gb24, gl24, cl24, HG24⟩ := Kd.R_form HO_5.out (by omega)
             (first | cases eo24 | (injection eo24 with ea_ en_ ec_; (first | subst ea_ | (injection ea_ with ea_; subst ea_)); subst ec_; clear en_))
             have GB24 := Aside0.mk gb24
             have GG24 := Aside0.mk HG24
             clear gb24 gl24 HG24
             obtain ⟨hx24_0, hf24_0⟩ := Kd.R_celln 0 HO_5.out ((ji21) : Int) p24 q24
             replace p24 := eq_true p24
             replace q24 := eq_true q24
             have HP25 := Kd.R_putg HO_5.out ((ji21) : Int) ((x8_2) % 4294967296)
             go_wp2_with (first | ((with_reducible refine gate_store (t := 47) (p := 64) rfl ?_); refine store_event (t := 47) (p := 64) (v := ?vo_w26) (w1 := (wr.setCell ⟨go24, ((ji21) : Int).toNat, none⟩ (.int .u32 ((x8_2) % 4294967296)))) ?hg ?ho ?hn ?hr ?_; (case ho => rfl); (case hg => rfl); (case hn => rfl); (case hr => first | (go_simp; done) | (go_simp; rfl)); intro w26 hw; have hg : wr.grownBy w26 (some go24) := (by rw [hw]; exact HP25.2); have hp_ : Kd.R (Kd.int .u32) 47 w26 w.heap.size (fun _ => True) (.slice (some ⟨go24, 0, none⟩) x5_2.length co24) y398 := (by rw [hw, Ny398.out]; exact HP25.1); clear HP25; have n0_ := Aside0.mk (hp_); have n1_ := Aside0.mk ((by rw [hw]; exact below_set (HB.out) GB24.out : Below w.heap.size w w26)); clear HO_5; clear HB; have HO_5 := n0_; have HB := n1_; clear n0_ n1_; clear hg hw hp_))
             go_roundg k2
             case measure => have := HK1.out; have := HK2.out; omega
             case rel => exact ⟨(y398), (wrap64 (x20_1 + 1)), (by first | rfl | (simp; done) | (simp [*]; done)), H', ⟨by have := HK1.out; have := HK2.out; omega⟩, ⟨by (with_reducible repeat (first | apply Kd.R_alloc | apply Kd.R_drewN | apply Kd.R_drew)); exact HO_5.out⟩, ⟨bw_ HB.out⟩⟩
            ·rw [if_neg c23] at H
             exact absurd H (by simp)
           ·rw [if_neg c22] at H
            exact absurd H (by simp)
       ·rw [if_neg c10] at H
        exact absurd H (by simp)
      ·rw [if_neg c9] at H
       exact absurd H (by simp)
     ·rw [if_neg c8] at H
      have c8b0 : decide (x20_1 < (l0.length : Int)) = false := decide_eq_false c8
      clear c8
      replace H := Option.bind_eq_some_iff.mp H
      obtain ⟨t391, A270, H⟩ := H
      (try dsimp only at H)
      have A27 := Aside0.mk A270
      clear A270
      obtain rfl := Option.some.inj H
      obtain ⟨Ao28, co28, eo28⟩ := Kd.R_slice HO_5.out
      subst eo28
      go_wp2_with (first | ((with_reducible refine gate_callee (f := 48) rfl ?_); refine gl_ (some 67) Try.func48 #[.slice Ao28 x5_1.length co28] ?_; (with_reducible refine (nat_cut_own.calls k1 (fun k_ => some k_ = (.slice Ao28 x5_1.length co28 : Value).ownBlock) (.slice Ao28 x5_1.length co28) x5_1 t391 w _ ?side1 ?side2 A27.out).mono ?_); (case side1 => repeat (first | (with_reducible first | exact HB.out | apply below_alloc | apply pw_below_drewN | apply below_drew1) | exact HB.out)); (case side2 => exact Kd.R_tight rfl HO_5.out); rintro e w29 ⟨v392, rfl, ho0, hb, hkp⟩; refine ⟨_, rfl, ?_⟩; have HO393 := Aside0.mk (Kd.R_mono (ok' := fun k_ => True) ho0 (fun k_ hk_ => trivial)); replace HB := Aside0.mk (hb); clear HO_5; (try clear hb); (try clear hkp); (try clear ho0)))
      go_ret
      exact ⟨_, by first | rfl | (simp [errW_none, errW_some] <;> rfl) | (simp only [← hji3]; first | rfl | (simp [errW_none, errW_some] <;> rfl)) | (simp [*, errW_none, errW_some] <;> rfl), by (with_reducible repeat (first | apply Kd.R_alloc | apply Kd.R_drewN | apply Kd.R_drew)); exact HO393.out, bw_ HB.out⟩
  ·rw [if_neg c5] at H
   exact absurd H (by simp)
 ·rw [if_neg c4] at H
  exact absurd H (by simp)

/-! ### whole_Mul: function 14 -/
theorem whole_Mul.tab5 : rtab .any (opsOf Try.f14 5) = whole_Mul.T5 := by kernel_rfl
theorem whole_Mul.bits5 : waitsOk whole_Mul.T5.2 whole_Mul.B5 = true := by kernel_rfl
set_option maxHeartbeats 8000000 in
set_option maxRecDepth 100000 in
theorem whole_Mul.calls (k : Nat) (A0 : Option Addr) (c0 : Nat) (l0 : List (S24)) (r1 : Bool) (r2 : List Int) (w : World) (hr0 : Kd.C k24 w A0 l0.length l0) (hc0 : l0.length ≤ c0) (h : whole_Mul.f k l0 = some (r1, r2)) :
  Calls Try.prog 14 #[.slice A0 l0.length c0] w fun e w' => ∃ v1_ : Value, e = .returned (.agg #[.bool r1, v1_]) ∧ Kd.R (Kd.int .u32) 47 w' w.heap.size (fun _ => True) v1_ r2 ∧ Below w.heap.size w w' := by
 have hu24 := Try.underlying24
 have HR0 := Aside0.mk hr0
 have HC0 := Aside0.mk hc0
 clear hr0 hc0
 have HB := Aside0.mk (Below.refl w.heap.size w)
 have H : (whole_Mul.l0 k false (([1] : List Int)) l0 (l0.length : Int) 0) = some (r1, r2) := h
 clear h
 obtain ⟨y400, hy400⟩ : ∃ y_ : List Int, y_ = (([1] : List Int)) := ⟨_, rfl⟩
 replace H : (whole_Mul.l0 k false y400 l0 (l0.length : Int) 0) = some (r1, r2) := by first | (rw [hy400]; with_reducible exact H) | (have H2_ := (Option.bind_some _ _).symm.trans H; rw [hy400]; with_reducible exact H2_) | (have H2_ := (Option.bind_some _ _).symm.trans H; with_reducible exact H2_) | with_reducible exact H | (rw [hy400]; exact H) | exact H
 have Ny400 := Aside0.mk hy400
 clear hy400
 have H' := Aside0.mk H
 clear H
 go_enter Try.func14, Try.ntmps14
 go_wp2_with (first | ((with_reducible refine gate_dst (N := 2) rfl ?_); refine bx_ 2 #[.bool false, .slice none 0 0] 24 ?_; intro gb399 hg w2 hbox hb; have BK399 := Aside0.mk (hbox); have GW399 := ge_ hg HB; have GE399 := ge_ hg HB; replace HB := bq_ HB hb; clear hb hbox hg) | ((with_reducible refine gate_dst (N := 7) rfl ?_); refine Kd.R_lit (Kd.int .u32) _ 47 ?hg (N := 7) ?hd (xs := ([1] : List Int)) (inner := [.int .u32 1]) (ok := fun _ => True) (okp := fun _ => True) ?hr ?hp (fun _ hk => hk) trivial (Below.refl _ _) (Nat.le_refl _) (by simp) ?_; (case hd => rfl); (case hg => rfl); (case hr => first | (go_simp; done) | (go_simp; rfl)); (case hp => exact (Reps.one (show Kd.M (Kd.int .u32) _ _ _ 1 [.int .u32 1] from rfl) (Reps.none _ _))); intro v401 w3 ho4 hb hg_ hnew_; clear hg_ hnew_; (first | rw [← Ny400.out] at ho4 | (simp only [Int.reduceToNat] at ho4; rw [← Ny400.out] at ho4)); have HO402 := Aside0.mk (Kd.R_lower ho4 (below_size (bw_ HB.out))); replace BK399 := kq_ BK399 hb; replace HB := bq_ HB hb; clear hb ho4))
 go_loopg [3, 4, 10] k (fun kq v3 v4 v10 w' => ∃ (x3_1 : Bool) (x4_1 : List Int) (x10_1 : Int), v3 = .bool x3_1 ∧ v10 = .int .i64 x10_1 ∧ Aside0 (whole_Mul.l0 kq x3_1 x4_1 l0 (l0.length : Int) x10_1 = some (r1, r2)) ∧ Aside0 (kq ≤ k) ∧ Aside0 (Kd.R (Kd.int .u32) 47 w' w.heap.size (fun _ => True) v4 x4_1) ∧ Aside0 (w'.heap[gb399]? = some (.cells #[.bool false, (.slice none 0 0)] 24 (0, 0))) ∧ Aside0 (Below w.heap.size w w'))
 case atStart => exact ⟨(false), (y400), (0), (by first | rfl | (simp; done) | (simp [*]; done)), (by first | rfl | (simp; done) | (simp [*]; done)), H', ⟨Nat.le_refl _⟩, ⟨by (with_reducible repeat (first | apply Kd.R_alloc | apply Kd.R_drewN | apply Kd.R_drew)); exact HO402.out⟩, ⟨kb_ BK399.out⟩, ⟨bw_ HB.out⟩⟩
 case round =>
  clear H'
  try clear c1
  try clear p2
  obtain ⟨x3_1, x4_1, x10_1, rfl, rfl, HA, HK1, HO_4, BK399, HB⟩ := hrel
  cases gk with
  | zero => exact absurd HA.out (by simp [whole_Mul.l0])
  | succ k1 =>
   have H := HA.out
   clear HA
   simp only [whole_Mul.l0] at H
   by_cases c5 : x10_1 < (l0.length : Int)
   ·rw [if_pos c5] at H
    have c5b0 : decide (x10_1 < (l0.length : Int)) = true := decide_eq_true c5
    clear c5
    by_cases c6 : 0 ≤ x10_1
    ·rw [if_pos c6] at H
     have c6b0 : decide (0 ≤ x10_1) = true := decide_eq_true c6
     clear c6
     by_cases c7 : x10_1 < (l0.length : Int)
     ·rw [if_pos c7] at H
      have c7b0 : decide (x10_1 < (l0.length : Int)) = true := decide_eq_true c7
      clear c7
      replace H := Option.bind_eq_some_iff.mp H
      obtain ⟨t405, A80, H⟩ := H
      (try dsimp only at H)
      have A8 := Aside0.mk A80
      clear A80
      have H' := Aside0.mk H
      clear H
      have p403 : 0 ≤ (x10_1 : Int) := of_decide_eq_true (by first | (with_reducible assumption) | assumption)
      have q403 : x10_1 < (l0.length : Int) := of_decide_eq_true (by first | (with_reducible assumption) | assumption)
      obtain ⟨ad403, A403_1, c403_1, e403, hx403_0, hx403_1, hl403_1, hi403_1⟩ := at_T24 HR0.out x10_1 p403 q403
      cases e403
      replace hx403_0 := (HB.out.cell (World.block_lt_of_cell? w _ hx403_0)).trans hx403_0
      replace hx403_1 := (HB.out.cell (World.block_lt_of_cell? w _ hx403_1)).trans hx403_1
      have HR403_1 := Aside0.mk hi403_1
      have HC403_1 := Aside0.mk hl403_1
      clear hi403_1 hl403_1
      replace p403 := eq_true p403
      replace q403 := eq_true q403
      try go_wp2_with (first | ((with_reducible refine gate_dst (N := 6) rfl ?_); refine bx_ 6 #[.bool false, .slice none 0 0] 24 ?_; intro gb404 hg w9 hbox hb; have BK404 := Aside0.mk (hbox); have GW404 := ge_ hg HB; have GE404 := ge_ hg HB; have NB399_404 := nb_ hg BK399; have NB404_399 := nc_ hg BK399; replace HO_4 := Aside0.mk (Kd.R_below (kr_ HO_4.out) hb); replace BK399 := kq_ BK399 hb; replace HB := bq_ HB hb; clear hb hbox hg; have hnb10 := NB404_399.out; have hnc10 := NB399_404.out; obtain ⟨hcz11_0, hcz11_1, hfz11_0, hfz11_1⟩ := c2_ BK404))
      have n0_ : Aside0 (Kd.R (Kd.int .u32) 47 ((w9.setCell ⟨gb404, 0, none⟩ (.bool ((rd_T24 l0 x10_1).f0))).setCell ⟨gb404, 1, none⟩ (.slice A403_1 ((rd_T24 l0 x10_1).f1).length c403_1)) w.heap.size (fun _ => True) u4 x4_1) := ⟨by (with_reducible repeat (first | apply Kd.R_alloc | apply Kd.R_drewN | apply Kd.R_drew)); exact Kd.R_mono (Kd.R_far (p := ⟨gb404, 1, none⟩) (Kd.R_far (p := ⟨gb404, 0, none⟩) (Kd.R_types HO_4.out BK404.out (by decide)) (fun _ hk => hk.2) (.bool ((rd_T24 l0 x10_1).f0))) (fun _ hk => hk.2) (.slice A403_1 ((rd_T24 l0 x10_1).f1).length c403_1)) (fun _ hk => trivial)⟩
      have n1_ : Aside0 (((w9.setCell ⟨gb404, 0, none⟩ (.bool ((rd_T24 l0 x10_1).f0))).setCell ⟨gb404, 1, none⟩ (.slice A403_1 ((rd_T24 l0 x10_1).f1).length c403_1)).heap[gb399]? = some (.cells #[.bool false, .slice none 0 0] 24 (0, 0))) := ⟨by refine kb_ ?_; refine bf_ NB399_404 ?_; refine bf_ NB399_404 ?_; exact BK399.out⟩
      have n2_ : Aside0 (((w9.setCell ⟨gb404, 0, none⟩ (.bool ((rd_T24 l0 x10_1).f0))).setCell ⟨gb404, 1, none⟩ (.slice A403_1 ((rd_T24 l0 x10_1).f1).length c403_1)).heap[gb404]? = some (.cells #[.bool ((rd_T24 l0 x10_1).f0), .slice A403_1 ((rd_T24 l0 x10_1).f1).length c403_1] 24 (0, 0))) := ⟨by refine kb_ ?_; refine bp_ #[.bool ((rd_T24 l0 x10_1).f0), .slice none 0 0] 1 ?_; refine bp_ #[.bool false, .slice none 0 0] 0 ?_; exact BK404.out⟩
      have n3_ : Aside0 (Below w.heap.size w ((w9.setCell ⟨gb404, 0, none⟩ (.bool ((rd_T24 l0 x10_1).f0))).setCell ⟨gb404, 1, none⟩ (.slice A403_1 ((rd_T24 l0 x10_1).f1).length c403_1))) := ⟨bw_ HB.out⟩
      (try clear HO_4)
      (try clear BK399)
      (try clear BK404)
      (try clear HB)
      generalize ((w9.setCell ⟨gb404, 0, none⟩ (.bool ((rd_T24 l0 x10_1).f0))).setCell ⟨gb404, 1, none⟩ (.slice A403_1 ((rd_T24 l0 x10_1).f1).length c403_1)) = w12 at n0_ n1_ n2_ n3_ ⊢
      have HO_4 := n0_
      have BK399 := n1_
      have BK404 := n2_
      have HB := n3_
      clear n0_ n1_ n2_ n3_
      replace HO_4 := Aside0.mk (Kd.R_drew HO_4.out)
      replace BK399 := Aside0.mk (blk_drew BK399.out)
      replace BK404 := Aside0.mk (blk_drew BK404.out)
      replace HB := Aside0.mk (below_drew1 HB.out)
      obtain ⟨Ao14, co14, eo14⟩ := Kd.R_slice HO_4.out
      (first | subst eo14 | (injection eo14 with f1_ f2_ f3_; have f4_ := f1_.symm; have f5_ := f3_.symm; clear f1_ f2_ f3_; subst f4_; subst f5_))
      refine start_ (n := 10) (S := fun w' => w'.cell? ⟨gb404, 0, none⟩ = some (.bool ((rd_T24 l0 x10_1).f0)) ∧ w'.cell? ⟨gb404, 1, none⟩ = some (.slice A403_1 ((rd_T24 l0 x10_1).f1).length c403_1)) (ds := []) #[false, false, false, false, false, false, false, false, false, false] (by kernel_rfl) rfl rfl ⟨(blk_cell BK404.out 0).trans rfl, (blk_cell BK404.out 1).trans rfl⟩ (fun hHeld => ?_); refine with_tabW whole_Mul.tab5 whole_Mul.bits5 (fun HT_ HW_ => ?_)
      generalize w12.drew = w13 at HO_4 BK399 BK404 HB hHeld ⊢
      refine pure_ (i := 0) (N := some 14) (v := ?_) (a' := ?_) #[true, false, false, false, false, false, false, false, false, false] rfl rfl (any_of HT_.out (by kernel_rfl)) (fun _ _ _ h => h) (Or.inl ⟨by rfl, ?_⟩) ?_ ?_
      rotate_left
      ·intro w'
       go_simp
       with_reducible rfl
      rotate_left
      ·exact pt_
      refine pure_ (i := 1) (N := some 15) (v := ?_) (a' := ?_) #[true, true, false, false, false, false, false, false, false, false] rfl rfl (any_of HT_.out (by kernel_rfl)) (fun _ _ _ h => h) (Or.inl ⟨by rfl, ?_⟩) ?_ ?_
      rotate_left
      ·intro w'
       go_simp
       with_reducible rfl
      rotate_left
      ·exact pt_
      refine pure_ (i := 4) (N := some 18) (v := ?_) (a' := ?_) #[true, true, false, false, true, false, false, false, false, false] rfl rfl (any_of HT_.out (by kernel_rfl)) (fun _ _ _ h => h) (Or.inl ⟨by rfl, ?_⟩) ?_ ?_
      rotate_left
      ·intro w'
       go_simp
       with_reducible rfl
      rotate_left
      ·exact pt_
      refine pure_ (i := 5) (N := some 19) (v := ?_) (a' := ?_) #[true, true, false, false, true, true, false, false, false, false] rfl rfl (any_of HT_.out (by kernel_rfl)) (fun _ _ _ h => h) (Or.inl ⟨by rfl, ?_⟩) ?_ ?_
      rotate_left
      ·intro w'
       go_simp
       with_reducible rfl
      rotate_left
      ·exact pt_
      refine take_ (i := 2) (N := some 16) (v := ?_) (a' := ?_) #[true, true, true, false, true, true, false, false, false, false] rfl rfl (take_ofW HT_.out HW_.out (by kernel_rfl)) (fun _ _ _ h => h) (Or.inl ⟨by rfl, ?_⟩) hHeld ?_ ?_
      rotate_left
      ·rintro w' ⟨s0, s1⟩
       go_simp
       with_reducible rfl
      rotate_left
      ·exact pt_
      refine pure_ (i := 3) (N := some 17) (v := ?_) (a' := ?_) #[true, true, true, true, true, true, false, false, false, false] rfl rfl (any_of HT_.out (by kernel_rfl)) (fun _ _ _ h => h) (Or.inl ⟨by rfl, ?_⟩) ?_ ?_
      rotate_left
      ·intro w'
       go_simp
       with_reducible rfl
      rotate_left
      ·exact pt_
      refine take_ (i := 6) (N := some 20) (v := ?_) (a' := ?_) #[true, true, true, true, true, true, true, false, false, false] rfl rfl (take_ofW HT_.out HW_.out (by kernel_rfl)) (fun _ _ _ h => h) (Or.inl ⟨by rfl, ?_⟩) hHeld ?_ ?_
      rotate_left
      ·rintro w' ⟨s0, s1⟩
       go_simp
       with_reducible rfl
      rotate_left
      ·exact pt_
      refine one_ (i := 7) (N := some 21) #[true, true, true, true, true, true, true, true, false, false] rfl rfl (one_of HT_.out (by kernel_rfl)) (by decide) (fun K hK => ?_)
      refine gs_ Try.func38 #[.slice Ao14 x4_1.length co14, .slice A403_1 ((rd_T24 l0 x10_1).f1).length c403_1] ?_
      with_reducible refine (nat_Mul.calls k1 _ _ x4_1 _ _ ((rd_T24 l0 x10_1).f1) t405 _ ?side1 ?side2 ?side3 ?side4 A8.out).mono ?_
      (case side1 => exact kc_ (Kd.R_reads' HO_4.out).2.2)
      (case side2 => exact (Kd.R_reads' HO_4.out).2.1)
      (case side3 => exact kc_ (Kd.C_below HR403_1.out HB.out))
      (case side4 => exact HC403_1.out)
      rintro e w15 ⟨v406, rfl, ho0, hb⟩
      refine ⟨_, rfl, ?_⟩
      have HO407 := Aside0.mk (Kd.R_lower (Kd.R_new' ho0 (Kd.R_lt (kr_ HO_4.out))) (below_size (bw_ HB.out)))
      replace HO_4 := Aside0.mk (Kd.R_elder' (kr_ HO_4.out) (Kd.R_base ho0) hb)
      replace BK399 := kq_ BK399 hb
      replace BK404 := Aside0.mk (blk_below (g := gb404) (o := .cells #[.bool ((rd_T24 l0 x10_1).f0), .slice A403_1 ((rd_T24 l0 x10_1).f1).length c403_1] 24 (0, 0)) (kb_ BK404.out) hb)
      replace HB := bq_ HB hb
      (try clear hb)
      (try clear hb2)
      (try clear hk)
      (try clear hi)
      (try clear ho0)
      refine hK.out _ _ ⟨(blk_cell BK404.out 0).trans rfl, (blk_cell BK404.out 1).trans rfl⟩ (fun hHeld => ?_)
      clear hK K
      refine norm_ (a' := ?_) ?_ ?_
      rotate_left
      ·show Act.put _ (some 21) _ = _
       exact pt_
      refine pure_ (i := 8) (N := some 3) (v := ?_) (a' := ?_) #[true, true, true, true, true, true, true, true, true, false] rfl rfl (any_of HT_.out (by kernel_rfl)) (fun _ _ _ h => h) (Or.inl ⟨by rfl, ?_⟩) ?_ ?_
      rotate_left
      ·intro w'
       go_simp
       with_reducible rfl
      rotate_left
      ·exact pt_
      refine pure_ (i := 9) (N := some 4) (v := ?_) (a' := ?_) #[true, true, true, true, true, true, true, true, true, true] rfl rfl (any_of HT_.out (by kernel_rfl)) (fun _ _ _ h => h) (Or.inl ⟨by rfl, ?_⟩) ?_ ?_
      rotate_left
      ·intro w'
       go_simp
       with_reducible rfl
      rotate_left
      ·exact pt_
      refine done_ (done_of HT_.out (by kernel_rfl)) ?_
      try go_wp2
      go_roundg k1
      case measure => have := HK1.out; omega
      case rel => exact ⟨((x3_1 != ((rd_T24 l0 x10_1).f0))), (t405), (wrap64 (x10_1 + 1)), (by first | rfl | (simp; done) | (simp [*]; done)), (by first | rfl | (simp; done) | (simp [*]; done)), H', ⟨by have := HK1.out; omega⟩, ⟨by (with_reducible repeat (first | apply Kd.R_alloc | apply Kd.R_drewN | apply Kd.R_drew)); exact Kd.R_mono HO407.out (fun _ hk => trivial)⟩, ⟨kb_ BK399.out⟩, ⟨bw_ HB.out⟩⟩
     ·rw [if_neg c7] at H
      exact absurd H (by simp)
    ·rw [if_neg c6] at H
     exact absurd H (by simp)
   ·rw [if_neg c5] at H
    have c5b0 : decide (x10_1 < (l0.length : Int)) = false := decide_eq_false c5
    clear c5
    replace H := Option.bind_eq_some_iff.mp H
    obtain ⟨⟨t408, t409⟩, A160, H⟩ := H
    (try dsimp only at H)
    have A16 := Aside0.mk A160
    clear A160
    simp only [Option.some.injEq, Prod.mk.injEq] at H
    obtain ⟨rfl, rfl⟩ := H
    obtain ⟨Ao17, co17, eo17⟩ := Kd.R_slice HO_4.out
    subst eo17
    go_wp2_with (first | ((with_reducible refine gate_callee (f := 16) rfl ?_); refine gl_ (some 25) Try.func16 #[.bool x3_1, .slice Ao17 x4_1.length co17] ?_; (with_reducible refine (whole_Make.calls k1 x3_1 _ _ x4_1 t408 t409 _ ?side1 ?side2 A16.out).mono ?_); (case side1 => exact kc_ (Kd.R_reads' HO_4.out).2.2); (case side2 => exact (Kd.R_reads' HO_4.out).2.1); rintro e w18 ⟨v410, rfl, ho0, hb⟩; refine ⟨_, rfl, ?_⟩; have HO411 := Aside0.mk (Kd.R_lower (Kd.R_new' ho0 (Kd.R_lt (kr_ HO_4.out))) (below_size (bw_ HB.out))); replace HO_4 := Aside0.mk (Kd.R_elder' (kr_ HO_4.out) (Kd.R_base ho0) hb); replace BK399 := kq_ BK399 hb; replace HB := bq_ HB hb; (try clear hb); (try clear hb2); (try clear hk); (try clear hi); (try clear ho0); obtain ⟨hcz19_0, hcz19_1, hfz19_0, hfz19_1⟩ := c2_ BK399; obtain ⟨Ao20, co20, eo20⟩ := Kd.R_slice HO411.out; subst eo20))
    refine bodyPost_ret (results_cell_row rfl _ _ gb399 24 #[.bool t408, .slice Ao20 t409.length co20] (0, 0) _ rfl (by refine kb_ ?_; refine bp_ #[.bool t408, .slice none 0 0] 1 ?_; refine bp_ #[.bool false, .slice none 0 0] 0 ?_; exact BK399.out) Try.underlying24 rfl (by kernel_rfl)) rfl ?_
    exact ⟨_, rf_, by (with_reducible repeat (first | apply Kd.R_alloc | apply Kd.R_drewN | apply Kd.R_drew)); exact Kd.R_mono (Kd.R_far (p := ⟨gb399, 1, none⟩) (Kd.R_far (p := ⟨gb399, 0, none⟩) (Kd.R_types HO411.out BK399.out (by decide)) (fun _ hk => hk.2) (.bool t408)) (fun _ hk => hk.2) (.slice Ao20 t409.length co20)) (fun _ hk => trivial), bw_ HB.out⟩

/-! ### whole_Int: function 17 -/
set_option maxHeartbeats 8000000 in
set_option maxRecDepth 100000 in
theorem whole_Int.calls (k : Nat) (a0_0 : Bool) (A0_1 : Option Addr) (c0_1 : Nat) (l0_1 : List Int) (r1 : Int) (r2 : Bool) (w : World) (hr0_1 : Kd.C (Kd.int .u32) w A0_1 l0_1.length l0_1) (hc0_1 : l0_1.length ≤ c0_1) (h : whole_Int.f k a0_0 l0_1 = some (r1, r2)) :
  Calls Try.prog 17 #[.agg #[.bool a0_0, .slice A0_1 l0_1.length c0_1]] w fun e w' => e = .returned (.tuple #[.int .i64 r1, .bool r2]) ∧ Below w.heap.size w w' := by
 have hu24 := Try.underlying24
 have HR0_1 := Aside0.mk hr0_1
 have HC0_1 := Aside0.mk hc0_1
 clear hr0_1 hc0_1
 have HB := Aside0.mk (Below.refl w.heap.size w)
 have H : ((nat_Trim.f k l0_1).bind fun t413 => (if (t413.length : Int) > 2 then (some (0, false)) else (whole_Int.l0 k 0 t413 (t413.length : Int) 0 a0_0 l0_1))) = some (r1, r2) := h
 clear h
 replace H := Option.bind_eq_some_iff.mp H
 obtain ⟨t413, A20, H⟩ := H
 (try dsimp only at H)
 have A2 := Aside0.mk A20
 clear A20
 by_cases c3 : (t413.length : Int) > 2
 ·rw [if_pos c3] at H
  have c3b0 : decide (2 < (t413.length : Int)) = true := decide_eq_true c3
  have c3b1 : decide (2 < t413.length) = true := decide_eq_true (by omega)
  clear c3
  simp only [Option.some.injEq, Prod.mk.injEq] at H
  obtain ⟨rfl, rfl⟩ := H
  go_enter Try.func17, Try.ntmps17
  go_wp2_with (first | ((with_reducible refine gate_dst (N := 1) rfl ?_); refine bx_ 1 #[.bool a0_0, .slice A0_1 l0_1.length c0_1] 24 ?_; intro gb412 hg w4 hbox hb; have BK412 := Aside0.mk (hbox); have GW412 := ge_ hg HB; have GE412 := ge_ hg HB; replace HB := bq_ HB hb; clear hb hbox hg; obtain ⟨hcz5_0, hcz5_1, hfz5_0, hfz5_1⟩ := c2_ BK412) | ((with_reducible refine gate_callee (f := 40) rfl ?_); refine gl_ (some 12) Try.func40 #[.slice A0_1 l0_1.length c0_1] ?_; (with_reducible refine (nat_Trim.calls k _ _ l0_1 t413 _ ?side1 ?side2 A2.out).mono ?_); (case side1 => exact kc_ (Kd.C_below HR0_1.out HB.out)); (case side2 => exact HC0_1.out); rintro e w6 ⟨v414, rfl, ho0, hb⟩; refine ⟨_, rfl, ?_⟩; have HO415 := Aside0.mk (Kd.R_lower ho0 (below_size (bw_ HB.out))); replace BK412 := kq_ BK412 hb; replace HB := bq_ HB hb; (try clear hb); (try clear hb2); (try clear hk); (try clear hi); (try clear ho0); obtain ⟨Ao7, co7, eo7⟩ := Kd.R_slice HO415.out; subst eo7))
  go_ret2
  exact ⟨rf_, bw_ HB.out⟩
 ·rw [if_neg c3] at H
  have c3b0 : decide (2 < (t413.length : Int)) = false := decide_eq_false c3
  have c3b1 : decide (2 < t413.length) = false := decide_eq_false (by omega)
  clear c3
  have H' := Aside0.mk H
  clear H
  go_enter Try.func17, Try.ntmps17
  go_wp2_with (first | ((with_reducible refine gate_dst (N := 1) rfl ?_); refine bx_ 1 #[.bool a0_0, .slice A0_1 l0_1.length c0_1] 24 ?_; intro gb412 hg w8 hbox hb; have BK412 := Aside0.mk (hbox); have GW412 := ge_ hg HB; have GE412 := ge_ hg HB; replace HB := bq_ HB hb; clear hb hbox hg; obtain ⟨hcz9_0, hcz9_1, hfz9_0, hfz9_1⟩ := c2_ BK412) | ((with_reducible refine gate_callee (f := 40) rfl ?_); refine gl_ (some 12) Try.func40 #[.slice A0_1 l0_1.length c0_1] ?_; (with_reducible refine (nat_Trim.calls k _ _ l0_1 t413 _ ?side1 ?side2 A2.out).mono ?_); (case side1 => exact kc_ (Kd.C_below HR0_1.out HB.out)); (case side2 => exact HC0_1.out); rintro e w10 ⟨v414, rfl, ho0, hb⟩; refine ⟨_, rfl, ?_⟩; have HO415 := Aside0.mk (Kd.R_lower ho0 (below_size (bw_ HB.out))); replace BK412 := kq_ BK412 hb; replace HB := bq_ HB hb; (try clear hb); (try clear hb2); (try clear hk); (try clear hi); (try clear ho0); obtain ⟨Ao11, co11, eo11⟩ := Kd.R_slice HO415.out; subst eo11))
  go_loopg [5, 18] k (fun kq v5 v18 w' => ∃ (x5_1 : Int) (x18_1 : Int), v5 = .int .u64 x5_1 ∧ v18 = .int .i64 x18_1 ∧ Aside0 (whole_Int.l0 kq x5_1 t413 (t413.length : Int) x18_1 a0_0 l0_1 = some (r1, r2)) ∧ Aside0 (kq ≤ k) ∧ Aside0 (Kd.R (Kd.int .u32) 47 w' w.heap.size (fun _ => True) (.slice Ao11 t413.length co11) t413) ∧ Aside0 (w'.heap[gb412]? = some (.cells #[.bool a0_0, (.slice A0_1 l0_1.length c0_1)] 24 (0, 0))) ∧ Aside0 (Below w.heap.size w w'))
  case atStart => exact ⟨(0), (0), (by first | rfl | (simp; done) | (simp [*]; done)), (by first | rfl | (simp; done) | (simp [*]; done)), H', ⟨Nat.le_refl _⟩, ⟨by (with_reducible repeat (first | apply Kd.R_alloc | apply Kd.R_drewN | apply Kd.R_drew)); exact HO415.out⟩, ⟨kb_ BK412.out⟩, ⟨bw_ HB.out⟩⟩
  case round =>
   clear H'
   try clear c1
   try clear p2
   try clear c3
   try clear c3b0
   try clear c3b1
   try clear c4
   try clear hcz5_0 hcz5_1
   try clear hcz9_0 hcz9_1
   try clear hfz5_0 hfz5_1
   try clear hfz9_0 hfz9_1
   obtain ⟨x5_1, x18_1, rfl, rfl, HA, HK1, HO_16, BK412, HB⟩ := hrel
   cases gk with
   | zero => exact absurd HA.out (by simp [whole_Int.l0])
   | succ k1 =>
    have H := HA.out
    clear HA
    simp only [whole_Int.l0] at H
    by_cases c12 : x18_1 < (t413.length : Int)
    ·rw [if_pos c12] at H
     have c12b0 : decide (x18_1 < (t413.length : Int)) = true := decide_eq_true c12
     clear c12
     by_cases c13 : 0 ≤ x18_1
     ·rw [if_pos c13] at H
      have c13b0 : decide (0 ≤ x18_1) = true := decide_eq_true c13
      clear c13
      by_cases c14 : x18_1 < (t413.length : Int)
      ·rw [if_pos c14] at H
       have c14b0 : decide (x18_1 < (t413.length : Int)) = true := decide_eq_true c14
       clear c14
       obtain ⟨ji15, hji15⟩ : ∃ j_ : Int, (wrap64 (32 * x18_1)) = j_ := ⟨_, rfl⟩
       (first | rw [hji15] at H | simp only [hji15] at H)
       have hji15w : (IntKind.i64.wrap (32 * x18_1)) = ji15 := (i64_w _).trans hji15
       by_cases c16 : 0 ≤ (ji15)
       ·rw [if_pos c16] at H
        have c16b0 := eq_true c16
        have c16b1 : decide (0 ≤ (ji15)) = true := decide_eq_true c16
        clear c16
        obtain ⟨ji17, hji17⟩ : ∃ j_ : Int, (shl .u64 (IntKind.u64.wrap (rd t413 x18_1)) (ji15)) = j_ := ⟨_, rfl⟩
        (first | rw [hji17] at H | simp only [hji17] at H)
        have hji17_ : (IntKind.u64.wrap ((IntKind.u64.wrap (rd t413 x18_1)) * 2 ^ min (ji15).toNat 64)) = ji17 := hji17
        have hji17z : (ji15) ≤ 64 → (IntKind.u64.wrap ((IntKind.u64.wrap (rd t413 x18_1)) * 2 ^ (ji15).toNat)) = ji17 := shl_small hji17
        have H' := Aside0.mk H
        clear H
        have p416 : 0 ≤ (x18_1 : Int) := of_decide_eq_true (by first | (with_reducible assumption) | assumption)
        have q416 : x18_1 < (t413.length : Int) := of_decide_eq_true (by first | (with_reducible assumption) | assumption)
        obtain ⟨ad416, e416, hx416_0⟩ := Kd.at_int (Kd.R_reads' HO_16.out).2.2 x18_1 p416 q416
        cases e416
        replace p416 := eq_true p416
        replace q416 := eq_true q416
        go_wp2
        go_roundg k1
        case measure => have := HK1.out; omega
        case rel => exact ⟨(Go.bits .or .u64 x5_1 (ji17)), (wrap64 (x18_1 + 1)), (by first | rfl | (simp; done) | (simp only [← hji17] <;> (first | rfl | simp)) | (simp [*]; done)), (by first | rfl | (simp; done) | (simp [*]; done)), H', ⟨by have := HK1.out; omega⟩, ⟨by (with_reducible repeat (first | apply Kd.R_alloc | apply Kd.R_drewN | apply Kd.R_drew)); exact HO_16.out⟩, ⟨kb_ BK412.out⟩, ⟨bw_ HB.out⟩⟩
       ·rw [if_neg c16] at H
        exact absurd H (by simp)
      ·rw [if_neg c14] at H
       exact absurd H (by simp)
     ·rw [if_neg c13] at H
      exact absurd H (by simp)
    ·rw [if_neg c12] at H
     have c12b0 : decide (x18_1 < (t413.length : Int)) = false := decide_eq_false c12
     clear c12
     by_cases c18 : a0_0 = true
     ·subst c18
      have H1 : (if (wrap64 (-(wrap64 (x5_1)))) = 0 then (if x5_1 = 0 then (some (wrap64 (-(wrap64 (x5_1))), true)) else (some (0, false))) else (if x5_1 = 0 then (some (0, false)) else (if (((decide ((wrap64 (-(wrap64 (x5_1)))) < 0)) == true) = true) then (some (wrap64 (-(wrap64 (x5_1))), true)) else (some (0, false))))) = some (r1, r2) := by rw [if_pos rfl] at H; exact H
      clear H
      have H := H1
      clear H1
      by_cases c19 : (wrap64 (-(wrap64 (x5_1)))) = 0
      ·rw [if_pos c19] at H
       have c19b0 : ((wrap64 (-(wrap64 (x5_1)))) == 0) = true := beq_iff_eq.mpr c19
       have c19b1 : ((wrap64 (-(wrap64 (x5_1)))) != 0) = false := bne_eq_false_iff_eq.mpr c19
       clear c19
       by_cases c20 : x5_1 = 0
       ·rw [if_pos c20] at H
        have c20b0 : (x5_1 == 0) = true := beq_iff_eq.mpr c20
        have c20b1 : (x5_1 != 0) = false := bne_eq_false_iff_eq.mpr c20
        clear c20
        simp only [Option.some.injEq, Prod.mk.injEq] at H
        obtain ⟨rfl, rfl⟩ := H
        obtain ⟨hcz21_0, hcz21_1, hfz21_0, hfz21_1⟩ := c2_ BK412
        go_wp2
        go_ret2
        exact ⟨rf_, bw_ HB.out⟩
       ·rw [if_neg c20] at H
        have c20b0 : (x5_1 == 0) = false := beq_eq_false_iff_ne.mpr c20
        have c20b1 : (x5_1 != 0) = true := bne_iff_ne.mpr c20
        simp only [Option.some.injEq, Prod.mk.injEq] at H
        obtain ⟨rfl, rfl⟩ := H
        obtain ⟨hcz22_0, hcz22_1, hfz22_0, hfz22_1⟩ := c2_ BK412
        go_wp2
        go_ret2
        exact ⟨rf_, bw_ HB.out⟩
      ·rw [if_neg c19] at H
       have c19b0 : ((wrap64 (-(wrap64 (x5_1)))) == 0) = false := beq_eq_false_iff_ne.mpr c19
       have c19b1 : ((wrap64 (-(wrap64 (x5_1)))) != 0) = true := bne_iff_ne.mpr c19
       by_cases c23 : x5_1 = 0
       ·rw [if_pos c23] at H
        have c23b0 : (x5_1 == 0) = true := beq_iff_eq.mpr c23
        have c23b1 : (x5_1 != 0) = false := bne_eq_false_iff_eq.mpr c23
        clear c23
        simp only [Option.some.injEq, Prod.mk.injEq] at H
        obtain ⟨rfl, rfl⟩ := H
        obtain ⟨hcz24_0, hcz24_1, hfz24_0, hfz24_1⟩ := c2_ BK412
        go_wp2
        go_ret2
        exact ⟨rf_, bw_ HB.out⟩
       ·rw [if_neg c23] at H
        have c23b0 : (x5_1 == 0) = false := beq_eq_false_iff_ne.mpr c23
        have c23b1 : (x5_1 != 0) = true := bne_iff_ne.mpr c23
        by_cases c25 : (((decide ((wrap64 (-(wrap64 (x5_1)))) < 0)) == true) = true)
        ·rw [if_pos c25] at H
         have c25b0 : ((decide ((wrap64 (-(wrap64 (x5_1)))) < 0)) == true) = true := c25
         (try (have c25b1 : decide ((decide ((wrap64 (-(wrap64 (x5_1)))) < 0)) = true) = true := by simpa using c25))
         (try (have c25b2 : ((decide ((wrap64 (-(wrap64 (x5_1)))) < 0)) == true) = true := by simpa using c25))
         clear c25
         simp only [Option.some.injEq, Prod.mk.injEq] at H
         obtain ⟨rfl, rfl⟩ := H
         obtain ⟨hcz26_0, hcz26_1, hfz26_0, hfz26_1⟩ := c2_ BK412
         go_wp2
         go_ret2
         exact ⟨rf_, bw_ HB.out⟩
        ·rw [if_neg c25] at H
         have c25b0 : ((decide ((wrap64 (-(wrap64 (x5_1)))) < 0)) == true) = false := by simpa using c25
         (try (have c25b1 : decide ((decide ((wrap64 (-(wrap64 (x5_1)))) < 0)) = true) = false := by simpa using c25))
         (try (have c25b2 : ((decide ((wrap64 (-(wrap64 (x5_1)))) < 0)) == true) = false := by simpa using c25))
         (try (have c25b3 : ¬ ((decide ((wrap64 (-(wrap64 (x5_1)))) < 0)) = true) := by simpa using c25))
         clear c25
         simp only [Option.some.injEq, Prod.mk.injEq] at H
         obtain ⟨rfl, rfl⟩ := H
         obtain ⟨hcz27_0, hcz27_1, hfz27_0, hfz27_1⟩ := c2_ BK412
         go_wp2
         go_ret2
         exact ⟨rf_, bw_ HB.out⟩
     ·replace c18 := Bool.eq_false_iff.mpr c18
      subst c18
      have H1 : (if (wrap64 (x5_1)) = 0 then (if x5_1 = 0 then (some (wrap64 (x5_1), true)) else (some (0, false))) else (if x5_1 = 0 then (some (0, false)) else (if (((decide ((wrap64 (x5_1)) < 0)) == false) = true) then (some (wrap64 (x5_1), true)) else (some (0, false))))) = some (r1, r2) := by rw [if_neg (show ¬ (false = true) by decide)] at H; exact H
      clear H
      have H := H1
      clear H1
      by_cases c28 : (wrap64 (x5_1)) = 0
      ·rw [if_pos c28] at H
       have c28b0 : ((wrap64 (x5_1)) == 0) = true := beq_iff_eq.mpr c28
       have c28b1 : ((wrap64 (x5_1)) != 0) = false := bne_eq_false_iff_eq.mpr c28
       clear c28
       by_cases c29 : x5_1 = 0
       ·rw [if_pos c29] at H
        have c29b0 : (x5_1 == 0) = true := beq_iff_eq.mpr c29
        have c29b1 : (x5_1 != 0) = false := bne_eq_false_iff_eq.mpr c29
        clear c29
        simp only [Option.some.injEq, Prod.mk.injEq] at H
        obtain ⟨rfl, rfl⟩ := H
        obtain ⟨hcz30_0, hcz30_1, hfz30_0, hfz30_1⟩ := c2_ BK412
        go_wp2
        go_ret2
        exact ⟨rf_, bw_ HB.out⟩
       ·rw [if_neg c29] at H
        have c29b0 : (x5_1 == 0) = false := beq_eq_false_iff_ne.mpr c29
        have c29b1 : (x5_1 != 0) = true := bne_iff_ne.mpr c29
        simp only [Option.some.injEq, Prod.mk.injEq] at H
        obtain ⟨rfl, rfl⟩ := H
        obtain ⟨hcz31_0, hcz31_1, hfz31_0, hfz31_1⟩ := c2_ BK412
        go_wp2
        go_ret2
        exact ⟨rf_, bw_ HB.out⟩
      ·rw [if_neg c28] at H
       have c28b0 : ((wrap64 (x5_1)) == 0) = false := beq_eq_false_iff_ne.mpr c28
       have c28b1 : ((wrap64 (x5_1)) != 0) = true := bne_iff_ne.mpr c28
       by_cases c32 : x5_1 = 0
       ·rw [if_pos c32] at H
        have c32b0 : (x5_1 == 0) = true := beq_iff_eq.mpr c32
        have c32b1 : (x5_1 != 0) = false := bne_eq_false_iff_eq.mpr c32
        clear c32
        simp only [Option.some.injEq, Prod.mk.injEq] at H
        obtain ⟨rfl, rfl⟩ := H
        obtain ⟨hcz33_0, hcz33_1, hfz33_0, hfz33_1⟩ := c2_ BK412
        go_wp2
        go_ret2
        exact ⟨rf_, bw_ HB.out⟩
       ·rw [if_neg c32] at H
        have c32b0 : (x5_1 == 0) = false := beq_eq_false_iff_ne.mpr c32
        have c32b1 : (x5_1 != 0) = true := bne_iff_ne.mpr c32
        by_cases c34 : (((decide ((wrap64 (x5_1)) < 0)) == false) = true)
        ·rw [if_pos c34] at H
         have c34b0 : ((decide ((wrap64 (x5_1)) < 0)) == false) = true := c34
         (try (have c34b9 : ((decide ((wrap64 (x5_1)) < 0)) == false) = true := by simpa using c34))
         (try (have c34b1 : decide ((decide ((wrap64 (x5_1)) < 0)) = false) = true := by simpa using c34))
         (try (have c34b2 : ((decide ((wrap64 (x5_1)) < 0)) == false) = true := by simpa using c34))
         clear c34
         simp only [Option.some.injEq, Prod.mk.injEq] at H
         obtain ⟨rfl, rfl⟩ := H
         obtain ⟨hcz35_0, hcz35_1, hfz35_0, hfz35_1⟩ := c2_ BK412
         go_wp2
         go_ret2
         exact ⟨rf_, bw_ HB.out⟩
        ·rw [if_neg c34] at H
         have c34b0 : ((decide ((wrap64 (x5_1)) < 0)) == false) = false := by simpa using c34
         (try (have c34b9 : ((decide ((wrap64 (x5_1)) < 0)) == false) = false := by simpa using c34))
         (try (have c34b1 : decide ((decide ((wrap64 (x5_1)) < 0)) = false) = false := by simpa using c34))
         (try (have c34b2 : ((decide ((wrap64 (x5_1)) < 0)) == false) = false := by simpa using c34))
         (try (have c34b3 : ¬ ((decide ((wrap64 (x5_1)) < 0)) = false) := by simpa using c34))
         clear c34
         simp only [Option.some.injEq, Prod.mk.injEq] at H
         obtain ⟨rfl, rfl⟩ := H
         obtain ⟨hcz36_0, hcz36_1, hfz36_0, hfz36_1⟩ := c2_ BK412
         go_wp2
         go_ret2
         exact ⟨rf_, bw_ HB.out⟩

end Go.Proofs.Ytbejmpocgnldnaa.PZ
