-- Laid by this work's own program; Lean checks it.
import Derived.Test.YtaookeneeemfbaaDoorPAx0
import Derived.Test.YtaookeneeemfbaaDoorPAx1
import Derived.Test.YtaookeneeemfbaaDoorPAx2
import Derived.Test.YtaookeneeemfbaaDoorPAx3
namespace Go.Proofs.YtaookeneeemfbaaDoor.PA
open Go.RowKit Go.Proofs.YtaookeneeemfbaaDoorW.PrintWords Go.Proofs.YtaookeneeemfbaaDoorW.PrintLast Go.Proofs.YtaookeneeemfbaaDoorW.PrintMore
attribute [local go_sem] max2_int min2_int max_two min_two max_three min_three max_four min_four   -- for this text's walks alone
set_option linter.unusedVariables false
set_option linter.unusedSimpArgs false

attribute [local go_sem ↓ high] isSome_set_
/-! ### nat_Mul: function 75 -/
set_option maxHeartbeats 8000000 in
set_option maxRecDepth 100000 in
theorem nat_Mul.calls (k : Nat) (A0 : Option Addr) (c0 : Nat) (l0 : List Int) (A1 : Option Addr) (c1 : Nat) (l1 : List Int) (r : List Int) (w : World) (hr0 : Kd.C (Kd.int .u32) w A0 l0.length l0) (hc0 : l0.length ≤ c0) (hr1 : Kd.C (Kd.int .u32) w A1 l1.length l1) (hc1 : l1.length ≤ c1) (h : nat_Mul.f k l0 l1 = some r) :
  Calls Tryd.prog 75 #[.slice A0 l0.length c0, .slice A1 l1.length c1] w fun e w' => ∃ v0_ : Value, e = .returned (v0_) ∧ Kd.R (Kd.int .u32) 51 w' w.heap.size (fun _ => True) v0_ r ∧ Below w.heap.size w w' := by
 have HR0 := Aside0.mk hr0
 have HC0 := Aside0.mk hc0
 clear hr0 hc0
 have HR1 := Aside0.mk hr1
 have HC1 := Aside0.mk hc1
 clear hr1 hc1
 have HB := Aside0.mk (Below.refl w.heap.size w)
 have H : (if 0 ≤ (wrap64 ((l0.length : Int) + (l1.length : Int))) then (if (wrap64 ((l0.length : Int) + (l1.length : Int)) : Int).toNat ≤ 70368744177664 then (nat_Mul.l0 k l1 (List.replicate (wrap64 ((l0.length : Int) + (l1.length : Int)) : Int).toNat 0) l0 (l0.length : Int) 0) else (none)) else (none)) = some r := h
 clear h
 obtain ⟨ji3, hji3⟩ : ∃ j_ : Int, (wrap64 ((l0.length : Int) + (l1.length : Int))) = j_ := ⟨_, rfl⟩
 (first | rw [hji3] at H | simp only [hji3] at H)
 have hji3w : (IntKind.i64.wrap ((l0.length : Int) + (l1.length : Int))) = ji3 := (i64_w _).trans hji3
 by_cases c4 : 0 ≤ (ji3)
 ·rw [if_pos c4] at H
  have c4b0 := eq_true c4
  have c4b1 : decide (0 ≤ (ji3)) = true := decide_eq_true c4
  clear c4
  by_cases c5 : (ji3 : Int).toNat ≤ 70368744177664
  ·rw [if_pos c5] at H
   have c5b0 := eq_true c5
   have c5b1 : decide ((ji3 : Int).toNat ≤ 70368744177664) = true := decide_eq_true c5
   clear c5
   obtain ⟨y914, hy914⟩ : ∃ y_ : List Int, y_ = (List.replicate (ji3 : Int).toNat 0) := ⟨_, rfl⟩
   replace H : (nat_Mul.l0 k l1 y914 l0 (l0.length : Int) 0) = some r := by first | (rw [hy914]; with_reducible exact H) | (have H2_ := (Option.bind_some _ _).symm.trans H; rw [hy914]; with_reducible exact H2_) | (have H2_ := (Option.bind_some _ _).symm.trans H; with_reducible exact H2_) | with_reducible exact H | (rw [hy914]; exact H) | exact H
   have Ny914 := Aside0.mk hy914
   clear hy914
   have H' := Aside0.mk H
   clear H
   go_enter Tryd.func75, Tryd.ntmps75
   go_wp2_with (first | ((with_reducible refine gate_dst (N := 17) rfl ?_); refine Kd.R_make (Kd.int .u32) _ 51 rfl (N := 17) rfl 22 _ _ rfl ji3 rfl rfl Tryd.underlying22 (.int .u32 0) 4 info51 rfl (by decide) (by omega) 0 (ok := fun _ => True) (okp := fun _ => True) rfl (fun _ hk => hk) trivial (of_decide_eq_true (by first | (with_reducible assumption) | assumption)) (Nat.le_trans (Nat.mul_le_mul_right _ (of_decide_eq_true (by first | (with_reducible assumption) | assumption) : ji3.toNat ≤ 70368744177664)) (by omega)) (Below.refl _ _) (Nat.le_refl _) ?_; intro v915 w6 ho7 hb hg_ hnew_; clear hg_ hnew_; (first | rw [← Ny914.out] at ho7 | (simp only [Int.reduceToNat] at ho7; rw [← Ny914.out] at ho7)); have HO916 := Aside0.mk (Kd.R_lower ho7 (below_size (bw_ HB.out))); replace HB := bq_ HB hb; clear hb ho7))
   go_loopg [20] k (fun kq v20 w' => ∃ (x5_1 : List Int) (x20_1 : Int), v20 = .int .i64 x20_1 ∧ Aside0 (nat_Mul.l0 kq l1 x5_1 l0 (l0.length : Int) x20_1 = some r) ∧ Aside0 (kq ≤ k) ∧ Aside0 (Kd.R (Kd.int .u32) 51 w' w.heap.size (fun _ => True) v915 x5_1) ∧ Aside0 (Below w.heap.size w w'))
   case atStart => exact ⟨(y914), (0), (by first | rfl | (simp; done) | (simp [*]; done)), H', ⟨Nat.le_refl _⟩, ⟨by (with_reducible repeat (first | apply Kd.R_alloc | apply Kd.R_drewN | apply Kd.R_drew)); exact HO916.out⟩, ⟨bw_ HB.out⟩⟩
   case round =>
    clear H'
    try clear c1
    try clear p2
    try clear c4
    try clear c4b0
    try clear c4b1
    try clear c5
    try clear c5b0
    try clear c5b1
    try clear p6
    try clear c7
    obtain ⟨x5_1, x20_1, rfl, HA, HK1, HO_5, HB⟩ := hrel
    cases gk with
    | zero => exact absurd HA.out (by simp [nat_Mul.l0])
    | succ k1 =>
     have H := HA.out
     clear HA
     simp only [nat_Mul.l0] at H
     by_cases c8 : x20_1 < (l0.length : Int)
     ·rw [if_pos c8] at H
      have c8b0 : decide (x20_1 < (l0.length : Int)) = true := decide_eq_true c8
      clear c8
      by_cases c9 : 0 ≤ x20_1
      ·rw [if_pos c9] at H
       have c9b0 : decide (0 ≤ x20_1) = true := decide_eq_true c9
       clear c9
       by_cases c10 : x20_1 < (l0.length : Int)
       ·rw [if_pos c10] at H
        have c10b0 : decide (x20_1 < (l0.length : Int)) = true := decide_eq_true c10
        clear c10
        have H' := Aside0.mk H
        clear H
        have p920 : 0 ≤ (x20_1 : Int) := of_decide_eq_true (by first | (with_reducible assumption) | assumption)
        have q920 : x20_1 < (l0.length : Int) := of_decide_eq_true (by first | (with_reducible assumption) | assumption)
        obtain ⟨ad920, e920, hx920_0⟩ := Kd.at_int HR0.out x20_1 p920 q920
        cases e920
        replace hx920_0 := (HB.out.cell (World.block_lt_of_cell? w _ hx920_0)).trans hx920_0
        replace p920 := eq_true p920
        replace q920 := eq_true q920
        go_wp2
        go_loopg [8, 27] k1 (fun kq v8 v27 w' => ∃ (x5_2 : List Int) (x8_2 : Int) (x27_2 : Int), v8 = .int .u64 x8_2 ∧ v27 = .int .i64 x27_2 ∧ Aside0 (nat_Mul.l1 kq l1 x5_2 x20_1 (rd l0 x20_1) x8_2 l0 (l0.length : Int) x20_1 l1 (l1.length : Int) x27_2 = some r) ∧ Aside0 (kq ≤ k1) ∧ Aside0 (Kd.R (Kd.int .u32) 51 w' w.heap.size (fun _ => True) v915 x5_2) ∧ Aside0 (Below w.heap.size w w'))
        case atStart => exact ⟨(x5_1), (0), (0), (by first | rfl | (simp; done) | (simp [*]; done)), (by first | rfl | (simp; done) | (simp [*]; done)), H', ⟨Nat.le_refl _⟩, ⟨by (with_reducible repeat (first | apply Kd.R_alloc | apply Kd.R_drewN | apply Kd.R_drew)); exact HO_5.out⟩, ⟨bw_ HB.out⟩⟩
        case round =>
         clear H'
         try clear c1
         try clear p2
         try clear c4
         try clear c4b0
         try clear c4b1
         try clear c5
         try clear c5b0
         try clear c5b1
         try clear p6
         try clear c7
         try clear c8
         try clear c8b0
         try clear c9
         try clear c9b0
         try clear p9
         try clear q9
         try clear hx9
         try clear c10
         try clear c10b0
         try clear hx920_0
         try clear p2
         try clear p6
         try clear p920
         try clear q920
         obtain ⟨x5_2, x8_2, x27_2, rfl, rfl, HA, HK2, HO_5, HB⟩ := hrel
         cases gk with
         | zero => exact absurd HA.out (by simp [nat_Mul.l1])
         | succ k2 =>
          have H := HA.out
          clear HA
          simp only [nat_Mul.l1] at H
          by_cases c11 : x27_2 < (l1.length : Int)
          ·rw [if_pos c11] at H
           have c11b0 : decide (x27_2 < (l1.length : Int)) = true := decide_eq_true c11
           clear c11
           by_cases c12 : 0 ≤ x27_2
           ·rw [if_pos c12] at H
            have c12b0 : decide (0 ≤ x27_2) = true := decide_eq_true c12
            clear c12
            by_cases c13 : x27_2 < (l1.length : Int)
            ·rw [if_pos c13] at H
             have c13b0 : decide (x27_2 < (l1.length : Int)) = true := decide_eq_true c13
             clear c13
             obtain ⟨ji14, hji14⟩ : ∃ j_ : Int, (wrap64 (x20_1 + x27_2)) = j_ := ⟨_, rfl⟩
             (first | rw [hji14] at H | simp only [hji14] at H)
             have hji14w : (IntKind.i64.wrap (x20_1 + x27_2)) = ji14 := (i64_w _).trans hji14
             by_cases c15 : 0 ≤ (ji14)
             ·rw [if_pos c15] at H
              have c15b0 : decide (0 ≤ (ji14)) = true := decide_eq_true c15
              clear c15
              by_cases c16 : (ji14) < (x5_2.length : Int)
              ·rw [if_pos c16] at H
               have c16b0 : decide ((ji14) < (x5_2.length : Int)) = true := decide_eq_true c16
               clear c16
               obtain ⟨y923, hy923⟩ : ∃ y_ : List Int, y_ = (x5_2.set ((ji14) : Int).toNat ((IntKind.u64.wrap ((IntKind.u64.wrap ((IntKind.u64.wrap ((IntKind.u64.wrap ((rd l0 x20_1))) * (IntKind.u64.wrap (rd l1 x27_2)))) + (IntKind.u64.wrap (rd x5_2 (ji14))))) + x8_2)) % 4294967296)) := ⟨_, rfl⟩
               replace H : (nat_Mul.l1 k2 l1 y923 x20_1 (rd l0 x20_1) ((IntKind.u64.wrap ((IntKind.u64.wrap ((IntKind.u64.wrap ((IntKind.u64.wrap ((rd l0 x20_1))) * (IntKind.u64.wrap (rd l1 x27_2)))) + (IntKind.u64.wrap (rd x5_2 (ji14))))) + x8_2)) / 4294967296) l0 (l0.length : Int) x20_1 l1 (l1.length : Int) (wrap64 (x27_2 + 1))) = some r := by first | (rw [hy923]; with_reducible exact H) | (have H2_ := (Option.bind_some _ _).symm.trans H; rw [hy923]; with_reducible exact H2_) | (have H2_ := (Option.bind_some _ _).symm.trans H; with_reducible exact H2_) | with_reducible exact H | (rw [hy923]; exact H) | exact H
               have Ny923 := Aside0.mk hy923
               clear hy923
               have H' := Aside0.mk H
               clear H
               have p921 : 0 ≤ (x27_2 : Int) := of_decide_eq_true (by first | (with_reducible assumption) | assumption)
               have q921 : x27_2 < (l1.length : Int) := of_decide_eq_true (by first | (with_reducible assumption) | assumption)
               obtain ⟨ad921, e921, hx921_0⟩ := Kd.at_int HR1.out x27_2 p921 q921
               cases e921
               replace hx921_0 := (HB.out.cell (World.block_lt_of_cell? w _ hx921_0)).trans hx921_0
               replace p921 := eq_true p921
               replace q921 := eq_true q921
               obtain ⟨Ao18, co18, eo18⟩ := Kd.R_slice HO_5.out
               subst eo18
               have p922 : 0 ≤ ((ji14) : Int) := of_decide_eq_true (by first | (with_reducible assumption) | assumption)
               have q922 : (ji14) < (x5_2.length : Int) := of_decide_eq_true (by first | (with_reducible assumption) | assumption)
               obtain ⟨ad922, e922, hx922_0⟩ := Kd.at_int (Kd.R_reads' HO_5.out).2.2 (ji14) p922 q922
               cases e922
               replace p922 := eq_true p922
               replace q922 := eq_true q922
               have p17 : 0 ≤ ((ji14) : Int) := of_decide_eq_true (by first | (with_reducible assumption) | assumption)
               have q17 : ((ji14) : Int) < ((x5_2.length : Int) : Int) := of_decide_eq_true (by first | (with_reducible assumption) | assumption)
               obtain ⟨go17, co17, eo17, gb17, gl17, cl17, HG17⟩ := Kd.R_form HO_5.out (by omega)
               (first | cases eo17 | (injection eo17 with ea_ en_ ec_; (first | subst ea_ | (injection ea_ with ea_; subst ea_)); subst ec_; clear en_))
               have GB17 := Aside0.mk gb17
               have GG17 := Aside0.mk HG17
               clear gb17 gl17 HG17
               (first | simp only [add_plain] at hx922_0 | skip)
               obtain ⟨hx17_0, hf17_0⟩ := Kd.R_celln 0 HO_5.out ((ji14) : Int) p17 q17
               replace p17 := eq_true p17
               replace q17 := eq_true q17
               have HP19 := Kd.R_putg HO_5.out ((ji14) : Int) ((IntKind.u64.wrap ((IntKind.u64.wrap ((IntKind.u64.wrap ((IntKind.u64.wrap ((rd l0 x20_1))) * (IntKind.u64.wrap (rd l1 x27_2)))) + (IntKind.u64.wrap (rd x5_2 (ji14))))) + x8_2)) % 4294967296)
               go_wp2_with (first | ((with_reducible refine gate_store (t := 51) (p := 55) rfl ?_); refine store_event (t := 51) (p := 55) (v := ?vo_w20) (w1 := (wr.setCell ⟨go17, ((ji14) : Int).toNat, none⟩ (.int .u32 ((IntKind.u64.wrap ((IntKind.u64.wrap ((IntKind.u64.wrap ((IntKind.u64.wrap ((rd l0 x20_1))) * (IntKind.u64.wrap (rd l1 x27_2)))) + (IntKind.u64.wrap (rd x5_2 (ji14))))) + x8_2)) % 4294967296)))) ?hg ?ho ?hn ?hr ?_; (case ho => rfl); (case hg => rfl); (case hn => rfl); (case hr => first | (go_simp; done) | (go_simp; rfl)); intro w20 hw; have hg : wr.grownBy w20 (some go17) := (by rw [hw]; exact HP19.2); have hp_ : Kd.R (Kd.int .u32) 51 w20 w.heap.size (fun _ => True) (.slice (some ⟨go17, 0, none⟩) x5_2.length co18) y923 := (by rw [hw, Ny923.out]; exact HP19.1); clear HP19; have n0_ := Aside0.mk (hp_); have n1_ := Aside0.mk ((by rw [hw]; exact below_set (HB.out) GB17.out : Below w.heap.size w w20)); clear HO_5; clear HB; have HO_5 := n0_; have HB := n1_; clear n0_ n1_; clear hg hw hp_))
               go_roundg k2
               case measure => have := HK1.out; have := HK2.out; omega
               case rel => exact ⟨(y923), ((IntKind.u64.wrap ((IntKind.u64.wrap ((IntKind.u64.wrap ((IntKind.u64.wrap ((rd l0 x20_1))) * (IntKind.u64.wrap (rd l1 x27_2)))) + (IntKind.u64.wrap (rd x5_2 (ji14))))) + x8_2)) / 4294967296), (wrap64 (x27_2 + 1)), (by first | rfl | (simp; done) | (simp only [← hji14] <;> (first | rfl | simp)) | (simp [*]; done)), (by first | rfl | (simp; done) | (simp [*]; done)), H', ⟨by have := HK1.out; have := HK2.out; omega⟩, ⟨by (with_reducible repeat (first | apply Kd.R_alloc | apply Kd.R_drewN | apply Kd.R_drew)); exact HO_5.out⟩, ⟨bw_ HB.out⟩⟩
              ·rw [if_neg c16] at H
               exact absurd H (by simp)
             ·rw [if_neg c15] at H
              exact absurd H (by simp)
            ·rw [if_neg c13] at H
             exact absurd H (by simp)
           ·rw [if_neg c12] at H
            exact absurd H (by simp)
          ·rw [if_neg c11] at H
           have c11b0 : decide (x27_2 < (l1.length : Int)) = false := decide_eq_false c11
           clear c11
           obtain ⟨ji21, hji21⟩ : ∃ j_ : Int, (wrap64 (x20_1 + (l1.length : Int))) = j_ := ⟨_, rfl⟩
           (first | rw [hji21] at H | simp only [hji21] at H)
           have hji21w : (IntKind.i64.wrap (x20_1 + (l1.length : Int))) = ji21 := (i64_w _).trans hji21
           by_cases c22 : 0 ≤ (ji21)
           ·rw [if_pos c22] at H
            have c22b0 : decide (0 ≤ (ji21)) = true := decide_eq_true c22
            clear c22
            by_cases c23 : (ji21) < (x5_2.length : Int)
            ·rw [if_pos c23] at H
             have c23b0 : decide ((ji21) < (x5_2.length : Int)) = true := decide_eq_true c23
             clear c23
             obtain ⟨y924, hy924⟩ : ∃ y_ : List Int, y_ = (x5_2.set ((ji21) : Int).toNat ((x8_2) % 4294967296)) := ⟨_, rfl⟩
             replace H : (nat_Mul.l0 k2 l1 y924 l0 (l0.length : Int) (wrap64 (x20_1 + 1))) = some r := by first | (rw [hy924]; with_reducible exact H) | (have H2_ := (Option.bind_some _ _).symm.trans H; rw [hy924]; with_reducible exact H2_) | (have H2_ := (Option.bind_some _ _).symm.trans H; with_reducible exact H2_) | with_reducible exact H | (rw [hy924]; exact H) | exact H
             have Ny924 := Aside0.mk hy924
             clear hy924
             have H' := Aside0.mk H
             clear H
             have p24 : 0 ≤ ((ji21) : Int) := of_decide_eq_true (by first | (with_reducible assumption) | assumption)
             have q24 : ((ji21) : Int) < ((x5_2.length : Int) : Int) := of_decide_eq_true (by first | (with_reducible assumption) | assumption)
             obtain ⟨go24, co24, eo24, gb24, gl24, cl24, HG24⟩ := Kd.R_form HO_5.out (by omega)
             (first | cases eo24 | (injection eo24 with ea_ en_ ec_; (first | subst ea_ | (injection ea_ with ea_; subst ea_)); subst ec_; clear en_))
             have GB24 := Aside0.mk gb24
             have GG24 := Aside0.mk HG24
             clear gb24 gl24 HG24
             obtain ⟨hx24_0, hf24_0⟩ := Kd.R_celln 0 HO_5.out ((ji21) : Int) p24 q24
             replace p24 := eq_true p24
             replace q24 := eq_true q24
             have HP25 := Kd.R_putg HO_5.out ((ji21) : Int) ((x8_2) % 4294967296)
             go_wp2_with (first | ((with_reducible refine gate_store (t := 51) (p := 64) rfl ?_); refine store_event (t := 51) (p := 64) (v := ?vo_w26) (w1 := (wr.setCell ⟨go24, ((ji21) : Int).toNat, none⟩ (.int .u32 ((x8_2) % 4294967296)))) ?hg ?ho ?hn ?hr ?_; (case ho => rfl); (case hg => rfl); (case hn => rfl); (case hr => first | (go_simp; done) | (go_simp; rfl)); intro w26 hw; have hg : wr.grownBy w26 (some go24) := (by rw [hw]; exact HP25.2); have hp_ : Kd.R (Kd.int .u32) 51 w26 w.heap.size (fun _ => True) (.slice (some ⟨go24, 0, none⟩) x5_2.length co24) y924 := (by rw [hw, Ny924.out]; exact HP25.1); clear HP25; have n0_ := Aside0.mk (hp_); have n1_ := Aside0.mk ((by rw [hw]; exact below_set (HB.out) GB24.out : Below w.heap.size w w26)); clear HO_5; clear HB; have HO_5 := n0_; have HB := n1_; clear n0_ n1_; clear hg hw hp_))
             go_roundg k2
             case measure => have := HK1.out; have := HK2.out; omega
             case rel => exact ⟨(y924), (wrap64 (x20_1 + 1)), (by first | rfl | (simp; done) | (simp [*]; done)), H', ⟨by have := HK1.out; have := HK2.out; omega⟩, ⟨by (with_reducible repeat (first | apply Kd.R_alloc | apply Kd.R_drewN | apply Kd.R_drew)); exact HO_5.out⟩, ⟨bw_ HB.out⟩⟩
            ·rw [if_neg c23] at H
             exact absurd H (by simp)
           ·rw [if_neg c22] at H
            exact absurd H (by simp)
       ·rw [if_neg c10] at H
        exact absurd H (by simp)
      ·rw [if_neg c9] at H
       exact absurd H (by simp)
     ·rw [if_neg c8] at H
      have c8b0 : decide (x20_1 < (l0.length : Int)) = false := decide_eq_false c8
      clear c8
      replace H := Option.bind_eq_some_iff.mp H
      obtain ⟨t917, A270, H⟩ := H
      (try dsimp only at H)
      have A27 := Aside0.mk A270
      clear A270
      obtain rfl := Option.some.inj H
      obtain ⟨Ao28, co28, eo28⟩ := Kd.R_slice HO_5.out
      subst eo28
      go_wp2_with (first | ((with_reducible refine gate_callee (f := 67) rfl ?_); refine gl_ (some 67) Tryd.func67 #[.slice Ao28 x5_1.length co28] ?_; (with_reducible refine (nat_cut_own.calls k1 (fun k_ => some k_ = (.slice Ao28 x5_1.length co28 : Value).ownBlock) (.slice Ao28 x5_1.length co28) x5_1 t917 w _ ?side1 ?side2 A27.out).mono ?_); (case side1 => repeat (first | (with_reducible first | exact HB.out | apply below_alloc | apply pw_below_drewN | apply below_drew1) | exact HB.out)); (case side2 => exact Kd.R_tight rfl HO_5.out); rintro e w29 ⟨v918, rfl, ho0, hb, hkp⟩; refine ⟨_, rfl, ?_⟩; have HO919 := Aside0.mk (Kd.R_mono (ok' := fun k_ => True) ho0 (fun k_ hk_ => trivial)); replace HB := Aside0.mk (hb); clear HO_5; (try clear hb); (try clear hkp); (try clear ho0)))
      go_ret
      exact ⟨_, by first | rfl | (simp [errW_none, errW_some] <;> rfl) | (simp only [← hji3]; first | rfl | (simp [errW_none, errW_some] <;> rfl)) | (simp [*, errW_none, errW_some] <;> rfl), by (with_reducible repeat (first | apply Kd.R_alloc | apply Kd.R_drewN | apply Kd.R_drew)); exact HO919.out, bw_ HB.out⟩
  ·rw [if_neg c5] at H
   exact absurd H (by simp)
 ·rw [if_neg c4] at H
  exact absurd H (by simp)

/-! ### whole_Mul: function 57 -/
theorem whole_Mul.tab5 : rtab .any (opsOf Tryd.f57 5) = whole_Mul.T5 := by kernel_rfl
theorem whole_Mul.bits5 : waitsOk whole_Mul.T5.2 whole_Mul.B5 = true := by kernel_rfl
set_option maxHeartbeats 8000000 in
set_option maxRecDepth 100000 in
theorem whole_Mul.calls (k : Nat) (A0 : Option Addr) (c0 : Nat) (l0 : List (S24)) (r1 : Bool) (r2 : List Int) (w : World) (hr0 : Kd.C k24 w A0 l0.length l0) (hc0 : l0.length ≤ c0) (h : whole_Mul.f k l0 = some (r1, r2)) :
  Calls Tryd.prog 57 #[.slice A0 l0.length c0] w fun e w' => ∃ v1_ : Value, e = .returned (.agg #[.bool r1, v1_]) ∧ Kd.R (Kd.int .u32) 51 w' w.heap.size (fun _ => True) v1_ r2 ∧ Below w.heap.size w w' := by
 have hu24 := Tryd.underlying24
 have HR0 := Aside0.mk hr0
 have HC0 := Aside0.mk hc0
 clear hr0 hc0
 have HB := Aside0.mk (Below.refl w.heap.size w)
 have H : (whole_Mul.l0 k false (([1] : List Int)) l0 (l0.length : Int) 0) = some (r1, r2) := h
 clear h
 obtain ⟨y926, hy926⟩ : ∃ y_ : List Int, y_ = (([1] : List Int)) := ⟨_, rfl⟩
 replace H : (whole_Mul.l0 k false y926 l0 (l0.length : Int) 0) = some (r1, r2) := by first | (rw [hy926]; with_reducible exact H) | (have H2_ := (Option.bind_some _ _).symm.trans H; rw [hy926]; with_reducible exact H2_) | (have H2_ := (Option.bind_some _ _).symm.trans H; with_reducible exact H2_) | with_reducible exact H | (rw [hy926]; exact H) | exact H
 have Ny926 := Aside0.mk hy926
 clear hy926
 have H' := Aside0.mk H
 clear H
 go_enter Tryd.func57, Tryd.ntmps57
 go_wp2_with (first | ((with_reducible refine gate_dst (N := 2) rfl ?_); refine bx_ 2 #[.bool false, .slice none 0 0] 24 ?_; intro gb925 hg w2 hbox hb; have BK925 := Aside0.mk (hbox); have GW925 := ge_ hg HB; have GE925 := ge_ hg HB; replace HB := bq_ HB hb; clear hb hbox hg) | ((with_reducible refine gate_dst (N := 7) rfl ?_); refine Kd.R_lit (Kd.int .u32) _ 51 ?hg (N := 7) ?hd (xs := ([1] : List Int)) (inner := [.int .u32 1]) (ok := fun _ => True) (okp := fun _ => True) ?hr ?hp (fun _ hk => hk) trivial (Below.refl _ _) (Nat.le_refl _) (by simp) ?_; (case hd => rfl); (case hg => rfl); (case hr => first | (go_simp; done) | (go_simp; rfl)); (case hp => exact (Reps.one (show Kd.M (Kd.int .u32) _ _ _ 1 [.int .u32 1] from rfl) (Reps.none _ _))); intro v927 w3 ho4 hb hg_ hnew_; clear hg_ hnew_; (first | rw [← Ny926.out] at ho4 | (simp only [Int.reduceToNat] at ho4; rw [← Ny926.out] at ho4)); have HO928 := Aside0.mk (Kd.R_lower ho4 (below_size (bw_ HB.out))); replace BK925 := kq_ BK925 hb; replace HB := bq_ HB hb; clear hb ho4))
 go_loopg [3, 4, 10] k (fun kq v3 v4 v10 w' => ∃ (x3_1 : Bool) (x4_1 : List Int) (x10_1 : Int), v3 = .bool x3_1 ∧ v10 = .int .i64 x10_1 ∧ Aside0 (whole_Mul.l0 kq x3_1 x4_1 l0 (l0.length : Int) x10_1 = some (r1, r2)) ∧ Aside0 (kq ≤ k) ∧ Aside0 (Kd.R (Kd.int .u32) 51 w' w.heap.size (fun _ => True) v4 x4_1) ∧ Aside0 (w'.heap[gb925]? = some (.cells #[.bool false, (.slice none 0 0)] 24 (0, 0))) ∧ Aside0 (Below w.heap.size w w'))
 case atStart => exact ⟨(false), (y926), (0), (by first | rfl | (simp; done) | (simp [*]; done)), (by first | rfl | (simp; done) | (simp [*]; done)), H', ⟨Nat.le_refl _⟩, ⟨by (with_reducible repeat (first | apply Kd.R_alloc | apply Kd.R_drewN | apply Kd.R_drew)); exact HO928.out⟩, ⟨kb_ BK925.out⟩, ⟨bw_ HB.out⟩⟩
 case round =>
  clear H'
  try clear p2
  obtain ⟨x3_1, x4_1, x10_1, rfl, rfl, HA, HK1, HO_4, BK925, HB⟩ := hrel
  cases gk with
  | zero => exact absurd HA.out (by simp [whole_Mul.l0])
  | succ k1 =>
   have H := HA.out
   clear HA
   simp only [whole_Mul.l0] at H
   by_cases c5 : x10_1 < (l0.length : Int)
   ·rw [if_pos c5] at H
    have c5b0 : decide (x10_1 < (l0.length : Int)) = true := decide_eq_true c5
    clear c5
    by_cases c6 : 0 ≤ x10_1
    ·rw [if_pos c6] at H
     have c6b0 : decide (0 ≤ x10_1) = true := decide_eq_true c6
     clear c6
     by_cases c7 : x10_1 < (l0.length : Int)
     ·rw [if_pos c7] at H
      have c7b0 : decide (x10_1 < (l0.length : Int)) = true := decide_eq_true c7
      clear c7
      replace H := Option.bind_eq_some_iff.mp H
      obtain ⟨t931, A80, H⟩ := H
      (try dsimp only at H)
      have A8 := Aside0.mk A80
      clear A80
      have H' := Aside0.mk H
      clear H
      have p929 : 0 ≤ (x10_1 : Int) := of_decide_eq_true (by first | (with_reducible assumption) | assumption)
      have q929 : x10_1 < (l0.length : Int) := of_decide_eq_true (by first | (with_reducible assumption) | assumption)
      obtain ⟨ad929, A929_1, c929_1, e929, hx929_0, hx929_1, hl929_1, hi929_1⟩ := at_T24 HR0.out x10_1 p929 q929
      cases e929
      replace hx929_0 := (HB.out.cell (World.block_lt_of_cell? w _ hx929_0)).trans hx929_0
      replace hx929_1 := (HB.out.cell (World.block_lt_of_cell? w _ hx929_1)).trans hx929_1
      have HR929_1 := Aside0.mk hi929_1
      have HC929_1 := Aside0.mk hl929_1
      clear hi929_1 hl929_1
      replace p929 := eq_true p929
      replace q929 := eq_true q929
      try go_wp2_with (first | ((with_reducible refine gate_dst (N := 6) rfl ?_); refine bx_ 6 #[.bool false, .slice none 0 0] 24 ?_; intro gb930 hg w9 hbox hb; have BK930 := Aside0.mk (hbox); have GW930 := ge_ hg HB; have GE930 := ge_ hg HB; have NB925_930 := nb_ hg BK925; have NB930_925 := nc_ hg BK925; replace HO_4 := Aside0.mk (Kd.R_below (kr_ HO_4.out) hb); replace BK925 := kq_ BK925 hb; replace HB := bq_ HB hb; clear hb hbox hg; have hnb10 := NB930_925.out; have hnc10 := NB925_930.out; obtain ⟨hcz11_0, hcz11_1, hfz11_0, hfz11_1⟩ := c2_ BK930))
      have n0_ : Aside0 (Kd.R (Kd.int .u32) 51 ((w9.setCell ⟨gb930, 0, none⟩ (.bool ((rd_T24 l0 x10_1).f0))).setCell ⟨gb930, 1, none⟩ (.slice A929_1 ((rd_T24 l0 x10_1).f1).length c929_1)) w.heap.size (fun _ => True) u4 x4_1) := ⟨by (with_reducible repeat (first | apply Kd.R_alloc | apply Kd.R_drewN | apply Kd.R_drew)); exact Kd.R_mono (Kd.R_far (p := ⟨gb930, 1, none⟩) (Kd.R_far (p := ⟨gb930, 0, none⟩) (Kd.R_types HO_4.out BK930.out (by decide)) (fun _ hk => hk.2) (.bool ((rd_T24 l0 x10_1).f0))) (fun _ hk => hk.2) (.slice A929_1 ((rd_T24 l0 x10_1).f1).length c929_1)) (fun _ hk => trivial)⟩
      have n1_ : Aside0 (((w9.setCell ⟨gb930, 0, none⟩ (.bool ((rd_T24 l0 x10_1).f0))).setCell ⟨gb930, 1, none⟩ (.slice A929_1 ((rd_T24 l0 x10_1).f1).length c929_1)).heap[gb925]? = some (.cells #[.bool false, .slice none 0 0] 24 (0, 0))) := ⟨by refine kb_ ?_; refine bf_ NB925_930 ?_; refine bf_ NB925_930 ?_; exact BK925.out⟩
      have n2_ : Aside0 (((w9.setCell ⟨gb930, 0, none⟩ (.bool ((rd_T24 l0 x10_1).f0))).setCell ⟨gb930, 1, none⟩ (.slice A929_1 ((rd_T24 l0 x10_1).f1).length c929_1)).heap[gb930]? = some (.cells #[.bool ((rd_T24 l0 x10_1).f0), .slice A929_1 ((rd_T24 l0 x10_1).f1).length c929_1] 24 (0, 0))) := ⟨by refine kb_ ?_; refine bp_ #[.bool ((rd_T24 l0 x10_1).f0), .slice none 0 0] 1 ?_; refine bp_ #[.bool false, .slice none 0 0] 0 ?_; exact BK930.out⟩
      have n3_ : Aside0 (Below w.heap.size w ((w9.setCell ⟨gb930, 0, none⟩ (.bool ((rd_T24 l0 x10_1).f0))).setCell ⟨gb930, 1, none⟩ (.slice A929_1 ((rd_T24 l0 x10_1).f1).length c929_1))) := ⟨bw_ HB.out⟩
      (try clear HO_4)
      (try clear BK925)
      (try clear BK930)
      (try clear HB)
      generalize ((w9.setCell ⟨gb930, 0, none⟩ (.bool ((rd_T24 l0 x10_1).f0))).setCell ⟨gb930, 1, none⟩ (.slice A929_1 ((rd_T24 l0 x10_1).f1).length c929_1)) = w12 at n0_ n1_ n2_ n3_ ⊢
      have HO_4 := n0_
      have BK925 := n1_
      have BK930 := n2_
      have HB := n3_
      clear n0_ n1_ n2_ n3_
      replace HO_4 := Aside0.mk (Kd.R_drew HO_4.out)
      replace BK925 := Aside0.mk (blk_drew BK925.out)
      replace BK930 := Aside0.mk (blk_drew BK930.out)
      replace HB := Aside0.mk (below_drew1 HB.out)
      obtain ⟨Ao14, co14, eo14⟩ := Kd.R_slice HO_4.out
      (first | subst eo14 | (injection eo14 with f1_ f2_ f3_; have f4_ := f1_.symm; have f5_ := f3_.symm; clear f1_ f2_ f3_; subst f4_; subst f5_))
      refine start_ (n := 10) (S := fun w' => w'.cell? ⟨gb930, 0, none⟩ = some (.bool ((rd_T24 l0 x10_1).f0)) ∧ w'.cell? ⟨gb930, 1, none⟩ = some (.slice A929_1 ((rd_T24 l0 x10_1).f1).length c929_1)) (ds := []) #[false, false, false, false, false, false, false, false, false, false] (by kernel_rfl) rfl rfl ⟨(blk_cell BK930.out 0).trans rfl, (blk_cell BK930.out 1).trans rfl⟩ (fun hHeld => ?_); refine with_tabW whole_Mul.tab5 whole_Mul.bits5 (fun HT_ HW_ => ?_)
      generalize w12.drew = w13 at HO_4 BK925 BK930 HB hHeld ⊢
      refine pure_ (i := 0) (N := some 14) (v := ?_) (a' := ?_) #[true, false, false, false, false, false, false, false, false, false] rfl rfl (any_of HT_.out (by kernel_rfl)) (fun _ _ _ h => h) (Or.inl ⟨by rfl, ?_⟩) ?_ ?_
      rotate_left
      ·intro w'
       go_simp
       with_reducible rfl
      rotate_left
      ·exact pt_
      refine pure_ (i := 1) (N := some 15) (v := ?_) (a' := ?_) #[true, true, false, false, false, false, false, false, false, false] rfl rfl (any_of HT_.out (by kernel_rfl)) (fun _ _ _ h => h) (Or.inl ⟨by rfl, ?_⟩) ?_ ?_
      rotate_left
      ·intro w'
       go_simp
       with_reducible rfl
      rotate_left
      ·exact pt_
      refine pure_ (i := 4) (N := some 18) (v := ?_) (a' := ?_) #[true, true, false, false, true, false, false, false, false, false] rfl rfl (any_of HT_.out (by kernel_rfl)) (fun _ _ _ h => h) (Or.inl ⟨by rfl, ?_⟩) ?_ ?_
      rotate_left
      ·intro w'
       go_simp
       with_reducible rfl
      rotate_left
      ·exact pt_
      refine pure_ (i := 5) (N := some 19) (v := ?_) (a' := ?_) #[true, true, false, false, true, true, false, false, false, false] rfl rfl (any_of HT_.out (by kernel_rfl)) (fun _ _ _ h => h) (Or.inl ⟨by rfl, ?_⟩) ?_ ?_
      rotate_left
      ·intro w'
       go_simp
       with_reducible rfl
      rotate_left
      ·exact pt_
      refine take_ (i := 2) (N := some 16) (v := ?_) (a' := ?_) #[true, true, true, false, true, true, false, false, false, false] rfl rfl (take_ofW HT_.out HW_.out (by kernel_rfl)) (fun _ _ _ h => h) (Or.inl ⟨by rfl, ?_⟩) hHeld ?_ ?_
      rotate_left
      ·rintro w' ⟨s0, s1⟩
       go_simp
       with_reducible rfl
      rotate_left
      ·exact pt_
      refine pure_ (i := 3) (N := some 17) (v := ?_) (a' := ?_) #[true, true, true, true, true, true, false, false, false, false] rfl rfl (any_of HT_.out (by kernel_rfl)) (fun _ _ _ h => h) (Or.inl ⟨by rfl, ?_⟩) ?_ ?_
      rotate_left
      ·intro w'
       go_simp
       with_reducible rfl
      rotate_left
      ·exact pt_
      refine take_ (i := 6) (N := some 20) (v := ?_) (a' := ?_) #[true, true, true, true, true, true, true, false, false, false] rfl rfl (take_ofW HT_.out HW_.out (by kernel_rfl)) (fun _ _ _ h => h) (Or.inl ⟨by rfl, ?_⟩) hHeld ?_ ?_
      rotate_left
      ·rintro w' ⟨s0, s1⟩
       go_simp
       with_reducible rfl
      rotate_left
      ·exact pt_
      refine one_ (i := 7) (N := some 21) #[true, true, true, true, true, true, true, true, false, false] rfl rfl (one_of HT_.out (by kernel_rfl)) (by decide) (fun K hK => ?_)
      refine gs_ Tryd.func75 #[.slice Ao14 x4_1.length co14, .slice A929_1 ((rd_T24 l0 x10_1).f1).length c929_1] ?_
      with_reducible refine (nat_Mul.calls k1 _ _ x4_1 _ _ ((rd_T24 l0 x10_1).f1) t931 _ ?side1 ?side2 ?side3 ?side4 A8.out).mono ?_
      (case side1 => exact kc_ (Kd.R_reads' HO_4.out).2.2)
      (case side2 => exact (Kd.R_reads' HO_4.out).2.1)
      (case side3 => exact kc_ (Kd.C_below HR929_1.out HB.out))
      (case side4 => exact HC929_1.out)
      rintro e w15 ⟨v932, rfl, ho0, hb⟩
      refine ⟨_, rfl, ?_⟩
      have HO933 := Aside0.mk (Kd.R_lower (Kd.R_new' ho0 (Kd.R_lt (kr_ HO_4.out))) (below_size (bw_ HB.out)))
      replace HO_4 := Aside0.mk (Kd.R_elder' (kr_ HO_4.out) (Kd.R_base ho0) hb)
      replace BK925 := kq_ BK925 hb
      replace BK930 := Aside0.mk (blk_below (g := gb930) (o := .cells #[.bool ((rd_T24 l0 x10_1).f0), .slice A929_1 ((rd_T24 l0 x10_1).f1).length c929_1] 24 (0, 0)) (kb_ BK930.out) hb)
      replace HB := bq_ HB hb
      (try clear hb)
      (try clear hb2)
      (try clear hk)
      (try clear hi)
      (try clear ho0)
      refine hK.out _ _ ⟨(blk_cell BK930.out 0).trans rfl, (blk_cell BK930.out 1).trans rfl⟩ (fun hHeld => ?_)
      clear hK K
      refine norm_ (a' := ?_) ?_ ?_
      rotate_left
      ·show Act.put _ (some 21) _ = _
       exact pt_
      refine pure_ (i := 8) (N := some 3) (v := ?_) (a' := ?_) #[true, true, true, true, true, true, true, true, true, false] rfl rfl (any_of HT_.out (by kernel_rfl)) (fun _ _ _ h => h) (Or.inl ⟨by rfl, ?_⟩) ?_ ?_
      rotate_left
      ·intro w'
       go_simp
       with_reducible rfl
      rotate_left
      ·exact pt_
      refine pure_ (i := 9) (N := some 4) (v := ?_) (a' := ?_) #[true, true, true, true, true, true, true, true, true, true] rfl rfl (any_of HT_.out (by kernel_rfl)) (fun _ _ _ h => h) (Or.inl ⟨by rfl, ?_⟩) ?_ ?_
      rotate_left
      ·intro w'
       go_simp
       with_reducible rfl
      rotate_left
      ·exact pt_
      refine done_ (done_of HT_.out (by kernel_rfl)) ?_
      try go_wp2
      go_roundg k1
      case measure => have := HK1.out; omega
      case rel => exact ⟨((x3_1 != ((rd_T24 l0 x10_1).f0))), (t931), (wrap64 (x10_1 + 1)), (by first | rfl | (simp; done) | (simp [*]; done)), (by first | rfl | (simp; done) | (simp [*]; done)), H', ⟨by have := HK1.out; omega⟩, ⟨by (with_reducible repeat (first | apply Kd.R_alloc | apply Kd.R_drewN | apply Kd.R_drew)); exact Kd.R_mono HO933.out (fun _ hk => trivial)⟩, ⟨kb_ BK925.out⟩, ⟨bw_ HB.out⟩⟩
     ·rw [if_neg c7] at H
      exact absurd H (by simp)
    ·rw [if_neg c6] at H
     exact absurd H (by simp)
   ·rw [if_neg c5] at H
    have c5b0 : decide (x10_1 < (l0.length : Int)) = false := decide_eq_false c5
    clear c5
    replace H := Option.bind_eq_some_iff.mp H
    obtain ⟨⟨t934, t935⟩, A160, H⟩ := H
    (try dsimp only at H)
    have A16 := Aside0.mk A160
    clear A160
    simp only [Option.some.injEq, Prod.mk.injEq] at H
    obtain ⟨rfl, rfl⟩ := H
    obtain ⟨Ao17, co17, eo17⟩ := Kd.R_slice HO_4.out
    subst eo17
    go_wp2_with (first | ((with_reducible refine gate_callee (f := 41) rfl ?_); refine gl_ (some 25) Tryd.func41 #[.bool x3_1, .slice Ao17 x4_1.length co17] ?_; (with_reducible refine (whole_Make.calls k1 x3_1 _ _ x4_1 t934 t935 _ ?side1 ?side2 A16.out).mono ?_); (case side1 => exact kc_ (Kd.R_reads' HO_4.out).2.2); (case side2 => exact (Kd.R_reads' HO_4.out).2.1); rintro e w18 ⟨v936, rfl, ho0, hb⟩; refine ⟨_, rfl, ?_⟩; have HO937 := Aside0.mk (Kd.R_lower (Kd.R_new' ho0 (Kd.R_lt (kr_ HO_4.out))) (below_size (bw_ HB.out))); replace HO_4 := Aside0.mk (Kd.R_elder' (kr_ HO_4.out) (Kd.R_base ho0) hb); replace BK925 := kq_ BK925 hb; replace HB := bq_ HB hb; (try clear hb); (try clear hb2); (try clear hk); (try clear hi); (try clear ho0); obtain ⟨hcz19_0, hcz19_1, hfz19_0, hfz19_1⟩ := c2_ BK925; obtain ⟨Ao20, co20, eo20⟩ := Kd.R_slice HO937.out; subst eo20))
    refine bodyPost_ret (results_cell_row rfl _ _ gb925 24 #[.bool t934, .slice Ao20 t935.length co20] (0, 0) _ rfl (by refine kb_ ?_; refine bp_ #[.bool t934, .slice none 0 0] 1 ?_; refine bp_ #[.bool false, .slice none 0 0] 0 ?_; exact BK925.out) Tryd.underlying24 rfl (by kernel_rfl)) rfl ?_
    exact ⟨_, rf_, by (with_reducible repeat (first | apply Kd.R_alloc | apply Kd.R_drewN | apply Kd.R_drew)); exact Kd.R_mono (Kd.R_far (p := ⟨gb925, 1, none⟩) (Kd.R_far (p := ⟨gb925, 0, none⟩) (Kd.R_types HO937.out BK925.out (by decide)) (fun _ hk => hk.2) (.bool t934)) (fun _ hk => hk.2) (.slice Ao20 t935.length co20)) (fun _ hk => trivial), bw_ HB.out⟩

/-! ### dy_Mul: function 30 -/
theorem dy_Mul.tab2 : rtab .any (opsOf Tryd.f30 2) = dy_Mul.T2 := by kernel_rfl
theorem dy_Mul.bits2 : waitsOk dy_Mul.T2.2 dy_Mul.B2 = true := by kernel_rfl
set_option maxHeartbeats 8000000 in
set_option maxRecDepth 100000 in
theorem dy_Mul.calls (k : Nat) (a0_0 : Bool) (A0_1 : Option Addr) (c0_1 : Nat) (l0_1 : List Int) (a0_2 : Int) (a1_0 : Bool) (A1_1 : Option Addr) (c1_1 : Nat) (l1_1 : List Int) (a1_2 : Int) (r1 : Bool) (r2 : List Int) (r3 : Int) (w : World) (hr0_1 : Kd.C (Kd.int .u32) w A0_1 l0_1.length l0_1) (hc0_1 : l0_1.length ≤ c0_1) (hr1_1 : Kd.C (Kd.int .u32) w A1_1 l1_1.length l1_1) (hc1_1 : l1_1.length ≤ c1_1) (h : dy_Mul.f k a0_0 l0_1 a0_2 a1_0 l1_1 a1_2 = some (r1, r2, r3)) (htab_ : Kd.C (Kd.int .u8) w (some ⟨0, 0, none⟩) 32 tz32tab) :
  Calls Tryd.prog 30 #[.agg #[.bool a0_0, .slice A0_1 l0_1.length c0_1, .int .i64 a0_2], .agg #[.bool a1_0, .slice A1_1 l1_1.length c1_1, .int .i64 a1_2]] w fun e w' => ∃ v1_ : Value, e = .returned (.agg #[.bool r1, v1_, .int .i64 r3]) ∧ Kd.R (Kd.int .u32) 51 w' w.heap.size (fun _ => True) v1_ r2 ∧ Below w.heap.size w w' := by
 have HTAB := Aside0.mk htab_
 clear htab_
 have hu27 := Tryd.underlying27
 have hu24 := Tryd.underlying24
 have HR0_1 := Aside0.mk hr0_1
 have HC0_1 := Aside0.mk hc0_1
 clear hr0_1 hc0_1
 have HR1_1 := Aside0.mk hr1_1
 have HC1_1 := Aside0.mk hc1_1
 clear hr1_1 hc1_1
 have HB := Aside0.mk (Below.refl w.heap.size w)
 have H : ((dy_fair.f k a0_0 l0_1 a0_2).bind fun bt941 => ((dy_fair.f k a1_0 l1_1 a1_2).bind fun bt946 => ((whole_Mul.f k (([(⟨bt941.1, bt941.2.1⟩ : S24), (⟨bt946.1, bt946.2.1⟩ : S24)] : List (S24)))).bind fun bt954 => ((dy_Make.f k bt954.1 bt954.2 (wrap64 (bt941.2.2 + bt946.2.2))).bind fun bt958 => (some (bt958.1, bt958.2.1, bt958.2.2)))))) = some (r1, r2, r3) := h
 clear h
 replace H := Option.bind_eq_some_iff.mp H
 obtain ⟨⟨t941, t942, t945⟩, A30, H⟩ := H
 (try dsimp only at H)
 have A3 := Aside0.mk A30
 clear A30
 replace H := Option.bind_eq_some_iff.mp H
 obtain ⟨⟨t946, t947, t950⟩, A40, H⟩ := H
 (try dsimp only at H)
 have A4 := Aside0.mk A40
 clear A40
 obtain ⟨y951, hy951⟩ : ∃ y_ : List (S24), y_ = (([(⟨t941, t942⟩ : S24), (⟨t946, t947⟩ : S24)] : List (S24))) := ⟨_, rfl⟩
 replace H : ((whole_Mul.f k y951).bind fun bt954 => ((dy_Make.f k bt954.1 bt954.2 (wrap64 (t945 + t950))).bind fun bt958 => (some (bt958.1, bt958.2.1, bt958.2.2)))) = some (r1, r2, r3) := by first | (rw [hy951]; with_reducible exact H) | (have H2_ := (Option.bind_some _ _).symm.trans H; rw [hy951]; with_reducible exact H2_) | (have H2_ := (Option.bind_some _ _).symm.trans H; with_reducible exact H2_) | with_reducible exact H | (rw [hy951]; exact H) | exact H
 have Ny951 := Aside0.mk hy951
 clear hy951
 replace H := Option.bind_eq_some_iff.mp H
 obtain ⟨⟨t954, t955⟩, A50, H⟩ := H
 (try dsimp only at H)
 have A5 := Aside0.mk A50
 clear A50
 replace H := Option.bind_eq_some_iff.mp H
 obtain ⟨⟨t958, t959, t962⟩, A60, H⟩ := H
 (try dsimp only at H)
 have A6 := Aside0.mk A60
 clear A60
 simp only [Option.some.injEq, Prod.mk.injEq] at H
 obtain ⟨rfl, rfl, rfl⟩ := H
 go_enter Tryd.func30, Tryd.ntmps30
 try go_wp2_with (first | ((with_reducible refine gate_dst (N := 2) rfl ?_); refine bx_ 2 #[.bool a0_0, .slice A0_1 l0_1.length c0_1, .int .i64 a0_2] 27 ?_; intro gb938 hg w7 hbox hb; have BK938 := Aside0.mk (hbox); have GW938 := ge_ hg HB; have GE938 := ge_ hg HB; replace HB := bq_ HB hb; clear hb hbox hg) | ((with_reducible refine gate_dst (N := 3) rfl ?_); refine bx_ 3 #[.bool a1_0, .slice A1_1 l1_1.length c1_1, .int .i64 a1_2] 27 ?_; intro gb939 hg w8 hbox hb; have BK939 := Aside0.mk (hbox); have GW939 := ge_ hg HB; have GE939 := ge_ hg HB; have NB938_939 := nb_ hg BK938; have NB939_938 := nc_ hg BK938; replace BK938 := kq_ BK938 hb; replace HB := bq_ HB hb; clear hb hbox hg) | ((with_reducible refine gate_dst (N := 4) rfl ?_); refine bx_ 4 #[.bool false, .slice none 0 0, .int .i64 0] 27 ?_; intro gb940 hg w9 hbox hb; have BK940 := Aside0.mk (hbox); have GW940 := ge_ hg HB; have GE940 := ge_ hg HB; have NB938_940 := nb_ hg BK938; have NB940_938 := nc_ hg BK938; have NB939_940 := nb_ hg BK939; have NB940_939 := nc_ hg BK939; replace BK938 := kq_ BK938 hb; replace BK939 := kq_ BK939 hb; replace HB := bq_ HB hb; clear hb hbox hg))
 replace BK938 := Aside0.mk (blk_drew BK938.out)
 replace BK939 := Aside0.mk (blk_drew BK939.out)
 replace BK940 := Aside0.mk (blk_drew BK940.out)
 replace HB := Aside0.mk (below_drew1 HB.out)
 refine start_ (n := 6) (S := fun w' => w'.cell? ⟨gb938, 0, none⟩ = some (.bool a0_0) ∧ w'.cell? ⟨gb938, 1, none⟩ = some (.slice A0_1 l0_1.length c0_1) ∧ w'.cell? ⟨gb938, 2, none⟩ = some (.int .i64 a0_2) ∧ w'.cell? ⟨gb939, 0, none⟩ = some (.bool a1_0) ∧ w'.cell? ⟨gb939, 1, none⟩ = some (.slice A1_1 l1_1.length c1_1) ∧ w'.cell? ⟨gb939, 2, none⟩ = some (.int .i64 a1_2)) (ds := [4, 5]) #[false, false, false, false, false, false] (by kernel_rfl) rfl rfl ⟨(blk_cell BK938.out 0).trans rfl, (blk_cell BK938.out 1).trans rfl, (blk_cell BK938.out 2).trans rfl, (blk_cell BK939.out 0).trans rfl, (blk_cell BK939.out 1).trans rfl, (blk_cell BK939.out 2).trans rfl⟩ (fun hHeld => ?_)
 generalize w9.drew = w10 at BK938 BK939 BK940 HB hHeld ⊢
 refine take_ (i := 0) (N := some 5) (v := ?_) (a' := ?_) #[true, false, false, false, false, false] rfl rfl (by kernel_rfl) (fun _ _ _ h => h) (Or.inl ⟨by rfl, ?_⟩) hHeld ?_ ?_
 rotate_left
 ·rintro w' ⟨s0, s1, s2, s3, s4, s5⟩
  go_simp
  with_reducible rfl
 rotate_left
 ·exact pt_
 refine take_ (i := 2) (N := some 7) (v := ?_) (a' := ?_) #[true, false, true, false, false, false] rfl rfl (by kernel_rfl) (fun _ _ _ h => h) (Or.inl ⟨by rfl, ?_⟩) hHeld ?_ ?_
 rotate_left
 ·rintro w' ⟨s0, s1, s2, s3, s4, s5⟩
  go_simp
  with_reducible rfl
 rotate_left
 ·exact pt_
 refine one_ (i := 1) (N := some 6) #[true, true, true, false, false, false] rfl rfl (by kernel_rfl) (by decide) (fun K hK => ?_)
 refine gs_ Tryd.func46 #[.agg #[.bool a0_0, .slice A0_1 l0_1.length c0_1, .int .i64 a0_2]] ?_
 with_reducible refine (dy_fair.calls k a0_0 (fun k_ => k_ < w.heap.size) _ _ l0_1 a0_2 t941 t942 t945 _ ?side1 A3.out ?sidet).mono ?_
 (case sidet => exact Kd.C_below HTAB.out (bw_ HB.out))
 (case side1 => exact Kd.V_mk HC0_1.out (Kd.F_below (Kd.C_F (Kd.heap_int .u32) HR0_1.out) (bw_ HB.out)))
 rintro e w11 ⟨v943, rfl, ho0, hb⟩
 refine ⟨_, rfl, ?_⟩
 have n0_ := Aside0.mk (Kd.V_lower (Kd.V_mono (ok' := fun k_ => k_ ≠ gb938 ∧ k_ ≠ gb939 ∧ k_ ≠ gb940) ho0 (fun k_ hk_ => ⟨Or.elim hk_ (fun hs_ => fun e_ => Nat.not_le.2 hs_ (by rw [e_]; exact GW938.out)) (fun hn_ => (Kd.freshB (g := gb938) (o := .cells #[.bool a0_0, .slice A0_1 l0_1.length c0_1, .int .i64 a0_2] 27 (0, 0)) (kb_ BK938.out) k_ hn_)), Or.elim hk_ (fun hs_ => fun e_ => Nat.not_le.2 hs_ (by rw [e_]; exact GW939.out)) (fun hn_ => (Kd.freshB (g := gb939) (o := .cells #[.bool a1_0, .slice A1_1 l1_1.length c1_1, .int .i64 a1_2] 27 (0, 0)) (kb_ BK939.out) k_ hn_)), Or.elim hk_ (fun hs_ => fun e_ => Nat.not_le.2 hs_ (by rw [e_]; exact GW940.out)) (fun hn_ => (Kd.freshB (g := gb940) (o := .cells #[.bool false, .slice none 0 0, .int .i64 0] 27 (0, 0)) (kb_ BK940.out) k_ hn_))⟩)) (below_size (bw_ HB.out)))
 have n1_ := kq_ BK938 hb
 have n2_ := kq_ BK939 hb
 have n3_ := kq_ BK940 hb
 have n4_ := bq_ HB hb
 clear BK938
 clear BK939
 clear BK940
 clear HB
 have HO944 := n0_
 have BK938 := n1_
 have BK939 := n2_
 have BK940 := n3_
 have HB := n4_
 clear n0_ n1_ n2_ n3_ n4_
 (try clear hb)
 (try clear hb2)
 (try clear hk)
 (try clear hi)
 (try clear ho0)
 refine hK.out _ _ ⟨(blk_cell BK938.out 0).trans rfl, (blk_cell BK938.out 1).trans rfl, (blk_cell BK938.out 2).trans rfl, (blk_cell BK939.out 0).trans rfl, (blk_cell BK939.out 1).trans rfl, (blk_cell BK939.out 2).trans rfl⟩ (fun hHeld => ?_)
 clear hK K
 refine norm_ (a' := ?_) ?_ ?_
 rotate_left
 ·show Act.put _ (some 6) _ = _
  exact pt_
 refine one_ (i := 3) (N := some 8) #[true, true, true, true, false, false] rfl rfl (by kernel_rfl) (by decide) (fun K hK => ?_)
 refine gs_ Tryd.func46 #[.agg #[.bool a1_0, .slice A1_1 l1_1.length c1_1, .int .i64 a1_2]] ?_
 with_reducible refine (dy_fair.calls k a1_0 (fun k_ => k_ < w.heap.size) _ _ l1_1 a1_2 t946 t947 t950 _ ?side1 A4.out ?sidet).mono ?_
 (case sidet => exact Kd.C_below HTAB.out (bw_ HB.out))
 (case side1 => exact Kd.V_mk HC1_1.out (Kd.F_below (Kd.C_F (Kd.heap_int .u32) HR1_1.out) (bw_ HB.out)))
 rintro e w12 ⟨v948, rfl, ho0, hb⟩
 refine ⟨_, rfl, ?_⟩
 have n0_ := Aside0.mk (Kd.V_below (by (with_reducible repeat (first | apply Kd.V_alloc | apply Kd.V_drewN | apply Kd.V_drew)); exact HO944.out) hb)
 have n1_ := Aside0.mk (Kd.V_lower (Kd.V_mono (ok' := fun k_ => k_ ≠ gb938 ∧ k_ ≠ gb939 ∧ k_ ≠ gb940) ho0 (fun k_ hk_ => ⟨Or.elim hk_ (fun hs_ => fun e_ => Nat.not_le.2 hs_ (by rw [e_]; exact GW938.out)) (fun hn_ => (Kd.freshB (g := gb938) (o := .cells #[.bool a0_0, .slice A0_1 l0_1.length c0_1, .int .i64 a0_2] 27 (0, 0)) (kb_ BK938.out) k_ hn_)), Or.elim hk_ (fun hs_ => fun e_ => Nat.not_le.2 hs_ (by rw [e_]; exact GW939.out)) (fun hn_ => (Kd.freshB (g := gb939) (o := .cells #[.bool a1_0, .slice A1_1 l1_1.length c1_1, .int .i64 a1_2] 27 (0, 0)) (kb_ BK939.out) k_ hn_)), Or.elim hk_ (fun hs_ => fun e_ => Nat.not_le.2 hs_ (by rw [e_]; exact GW940.out)) (fun hn_ => (Kd.freshB (g := gb940) (o := .cells #[.bool false, .slice none 0 0, .int .i64 0] 27 (0, 0)) (kb_ BK940.out) k_ hn_))⟩)) (below_size (bw_ HB.out)))
 have n2_ := kq_ BK938 hb
 have n3_ := kq_ BK939 hb
 have n4_ := kq_ BK940 hb
 have n5_ := bq_ HB hb
 clear HO944
 clear BK938
 clear BK939
 clear BK940
 clear HB
 have HO944 := n0_
 have HO949 := n1_
 have BK938 := n2_
 have BK939 := n3_
 have BK940 := n4_
 have HB := n5_
 clear n0_ n1_ n2_ n3_ n4_ n5_
 (try clear hb)
 (try clear hb2)
 (try clear hk)
 (try clear hi)
 (try clear ho0)
 obtain ⟨Ao14, co14, eo14⟩ := Kd.V_slice HO944.out
 (first | subst eo14 | (injection eo14 with f1_ f2_ f3_; have f4_ := f1_.symm; have f5_ := f3_.symm; clear f1_ f2_ f3_; subst f4_; subst f5_))
 obtain ⟨Ao18, co18, eo18⟩ := Kd.V_slice HO949.out
 (first | subst eo18 | (injection eo18 with f1_ f2_ f3_; have f4_ := f1_.symm; have f5_ := f3_.symm; clear f1_ f2_ f3_; subst f4_; subst f5_))
 refine hK.out _ _ ⟨(blk_cell BK938.out 0).trans rfl, (blk_cell BK938.out 1).trans rfl, (blk_cell BK938.out 2).trans rfl, (blk_cell BK939.out 0).trans rfl, (blk_cell BK939.out 1).trans rfl, (blk_cell BK939.out 2).trans rfl⟩ (fun hHeld => ?_)
 clear hK K
 refine norm_ (a' := ?_) ?_ ?_
 rotate_left
 ·show Act.put _ (some 8) _ = _
  exact pt_
 refine last_ (i := 4) (N := none) #[true, true, true, true, true, false] rfl rfl (by kernel_rfl) (by decide) (fun K hK => ?_)
 have hs13 : w12.cell? ⟨gb938, 0, none⟩ = some (.bool a0_0) := (blk_cell BK938.out 0).trans rfl
 have hfs13 := fz_ BK938 0
 have hns13_1 := NB939_938.out
 have hns13_2 := NB940_938.out
 have hms13_1 := NB938_939.out
 have hms13_2 := NB938_940.out
 have hs15 : w12.cell? ⟨gb938, 1, none⟩ = some (.slice A0_1 l0_1.length c0_1) := (blk_cell BK938.out 1).trans rfl
 have hfs15 := fz_ BK938 1
 have hns15_1 := NB939_938.out
 have hns15_2 := NB940_938.out
 have hms15_1 := NB938_939.out
 have hms15_2 := NB938_940.out
 have hs16 : w12.cell? ⟨gb938, 2, none⟩ = some (.int .i64 a0_2) := (blk_cell BK938.out 2).trans rfl
 have hfs16 := fz_ BK938 2
 have hns16_1 := NB939_938.out
 have hns16_2 := NB940_938.out
 have hms16_1 := NB938_939.out
 have hms16_2 := NB938_940.out
 refine skip_ (w1 := ?_) (by rfl) rfl ?_ ?_
 rotate_left
 ·go_simp
  rfl
 refine hK.out _ _ ?_
 clear hK K
 refine last_ (i := 5) (N := none) #[true, true, true, true, true, true] rfl rfl (by kernel_rfl) (by decide) (fun K hK => ?_)
 have hs17 : w12.cell? ⟨gb939, 0, none⟩ = some (.bool a1_0) := (blk_cell BK939.out 0).trans rfl
 have hfs17 := fz_ BK939 0
 have hns17_0 := NB938_939.out
 have hns17_2 := NB940_939.out
 have hms17_0 := NB939_938.out
 have hms17_2 := NB939_940.out
 have hs19 : w12.cell? ⟨gb939, 1, none⟩ = some (.slice A1_1 l1_1.length c1_1) := (blk_cell BK939.out 1).trans rfl
 have hfs19 := fz_ BK939 1
 have hns19_0 := NB938_939.out
 have hns19_2 := NB940_939.out
 have hms19_0 := NB939_938.out
 have hms19_2 := NB939_940.out
 have hs20 : w12.cell? ⟨gb939, 2, none⟩ = some (.int .i64 a1_2) := (blk_cell BK939.out 2).trans rfl
 have hfs20 := fz_ BK939 2
 have hns20_0 := NB938_939.out
 have hns20_2 := NB940_939.out
 have hms20_0 := NB939_938.out
 have hms20_2 := NB939_940.out
 refine skip_ (w1 := ?_) (by rfl) rfl ?_ ?_
 rotate_left
 ·go_simp
  rfl
 refine hK.out _ _ ?_
 clear hK K
 refine done_ (by kernel_rfl) ?_
 try go_wp2
 have n0_ : Aside0 (Kd.V (Kd.int .u32) 51 ((((((w12.setCell ⟨gb938, 0, none⟩ (.bool t941)).setCell ⟨gb938, 1, none⟩ (.slice Ao14 t942.length co14)).setCell ⟨gb938, 2, none⟩ (.int .i64 t945)).setCell ⟨gb939, 0, none⟩ (.bool t946)).setCell ⟨gb939, 1, none⟩ (.slice Ao18 t947.length co18)).setCell ⟨gb939, 2, none⟩ (.int .i64 t950)) w.heap.size (fun k_ => k_ ≠ gb938 ∧ k_ ≠ gb939 ∧ k_ ≠ gb940) (.slice Ao14 t942.length co14) t942) := ⟨by (with_reducible repeat (first | apply Kd.V_alloc | apply Kd.V_drewN | apply Kd.V_drew)); exact Kd.V_mono (Kd.V_far (p := ⟨gb939, 2, none⟩) (Kd.V_far (p := ⟨gb939, 1, none⟩) (Kd.V_far (p := ⟨gb939, 0, none⟩) (Kd.V_far (p := ⟨gb938, 2, none⟩) (Kd.V_far (p := ⟨gb938, 1, none⟩) (Kd.V_far (p := ⟨gb938, 0, none⟩) (Kd.V_mono (Kd.V_mono HO944.out (fun k_ hk => (⟨hk, hk.1⟩ : _ ∧ k_ ≠ gb938))) (fun k_ hk => (⟨hk, hk.1.2.1⟩ : _ ∧ k_ ≠ gb939))) (fun _ hk => hk.1.2) (.bool t941)) (fun _ hk => hk.1.2) (.slice Ao14 t942.length co14)) (fun _ hk => hk.1.2) (.int .i64 t945)) (fun _ hk => hk.2) (.bool t946)) (fun _ hk => hk.2) (.slice Ao18 t947.length co18)) (fun _ hk => hk.2) (.int .i64 t950)) (fun _ hk => by first | exact ⟨hk.1.1.1, ⟨hk.1.1.2.1, hk.1.1.2.2⟩⟩ | simp [hk])⟩
 have n1_ : Aside0 (Kd.V (Kd.int .u32) 51 ((((((w12.setCell ⟨gb938, 0, none⟩ (.bool t941)).setCell ⟨gb938, 1, none⟩ (.slice Ao14 t942.length co14)).setCell ⟨gb938, 2, none⟩ (.int .i64 t945)).setCell ⟨gb939, 0, none⟩ (.bool t946)).setCell ⟨gb939, 1, none⟩ (.slice Ao18 t947.length co18)).setCell ⟨gb939, 2, none⟩ (.int .i64 t950)) w.heap.size (fun k_ => k_ ≠ gb938 ∧ k_ ≠ gb939 ∧ k_ ≠ gb940) (.slice Ao18 t947.length co18) t947) := ⟨by (with_reducible repeat (first | apply Kd.V_alloc | apply Kd.V_drewN | apply Kd.V_drew)); exact Kd.V_mono (Kd.V_far (p := ⟨gb939, 2, none⟩) (Kd.V_far (p := ⟨gb939, 1, none⟩) (Kd.V_far (p := ⟨gb939, 0, none⟩) (Kd.V_far (p := ⟨gb938, 2, none⟩) (Kd.V_far (p := ⟨gb938, 1, none⟩) (Kd.V_far (p := ⟨gb938, 0, none⟩) (Kd.V_mono (Kd.V_mono HO949.out (fun k_ hk => (⟨hk, hk.1⟩ : _ ∧ k_ ≠ gb938))) (fun k_ hk => (⟨hk, hk.1.2.1⟩ : _ ∧ k_ ≠ gb939))) (fun _ hk => hk.1.2) (.bool t941)) (fun _ hk => hk.1.2) (.slice Ao14 t942.length co14)) (fun _ hk => hk.1.2) (.int .i64 t945)) (fun _ hk => hk.2) (.bool t946)) (fun _ hk => hk.2) (.slice Ao18 t947.length co18)) (fun _ hk => hk.2) (.int .i64 t950)) (fun _ hk => by first | exact ⟨hk.1.1.1, ⟨hk.1.1.2.1, hk.1.1.2.2⟩⟩ | simp [hk])⟩
 have n2_ : Aside0 (((((((w12.setCell ⟨gb938, 0, none⟩ (.bool t941)).setCell ⟨gb938, 1, none⟩ (.slice Ao14 t942.length co14)).setCell ⟨gb938, 2, none⟩ (.int .i64 t945)).setCell ⟨gb939, 0, none⟩ (.bool t946)).setCell ⟨gb939, 1, none⟩ (.slice Ao18 t947.length co18)).setCell ⟨gb939, 2, none⟩ (.int .i64 t950)).heap[gb938]? = some (.cells #[.bool t941, .slice Ao14 t942.length co14, .int .i64 t945] 27 (0, 0))) := ⟨by refine kb_ ?_; refine bf_ NB938_939 ?_; refine bf_ NB938_939 ?_; refine bf_ NB938_939 ?_; refine bp_ #[.bool t941, .slice Ao14 t942.length co14, .int .i64 a0_2] 2 ?_; refine bp_ #[.bool t941, .slice A0_1 l0_1.length c0_1, .int .i64 a0_2] 1 ?_; refine bp_ #[.bool a0_0, .slice A0_1 l0_1.length c0_1, .int .i64 a0_2] 0 ?_; exact BK938.out⟩
 have n3_ : Aside0 (((((((w12.setCell ⟨gb938, 0, none⟩ (.bool t941)).setCell ⟨gb938, 1, none⟩ (.slice Ao14 t942.length co14)).setCell ⟨gb938, 2, none⟩ (.int .i64 t945)).setCell ⟨gb939, 0, none⟩ (.bool t946)).setCell ⟨gb939, 1, none⟩ (.slice Ao18 t947.length co18)).setCell ⟨gb939, 2, none⟩ (.int .i64 t950)).heap[gb939]? = some (.cells #[.bool t946, .slice Ao18 t947.length co18, .int .i64 t950] 27 (0, 0))) := ⟨by refine kb_ ?_; refine bp_ #[.bool t946, .slice Ao18 t947.length co18, .int .i64 a1_2] 2 ?_; refine bp_ #[.bool t946, .slice A1_1 l1_1.length c1_1, .int .i64 a1_2] 1 ?_; refine bp_ #[.bool a1_0, .slice A1_1 l1_1.length c1_1, .int .i64 a1_2] 0 ?_; refine bf_ NB939_938 ?_; refine bf_ NB939_938 ?_; refine bf_ NB939_938 ?_; exact BK939.out⟩
 have n4_ : Aside0 (((((((w12.setCell ⟨gb938, 0, none⟩ (.bool t941)).setCell ⟨gb938, 1, none⟩ (.slice Ao14 t942.length co14)).setCell ⟨gb938, 2, none⟩ (.int .i64 t945)).setCell ⟨gb939, 0, none⟩ (.bool t946)).setCell ⟨gb939, 1, none⟩ (.slice Ao18 t947.length co18)).setCell ⟨gb939, 2, none⟩ (.int .i64 t950)).heap[gb940]? = some (.cells #[.bool false, .slice none 0 0, .int .i64 0] 27 (0, 0))) := ⟨by refine kb_ ?_; refine bf_ NB940_939 ?_; refine bf_ NB940_939 ?_; refine bf_ NB940_939 ?_; refine bf_ NB940_938 ?_; refine bf_ NB940_938 ?_; refine bf_ NB940_938 ?_; exact BK940.out⟩
 have n5_ : Aside0 (Below w.heap.size w ((((((w12.setCell ⟨gb938, 0, none⟩ (.bool t941)).setCell ⟨gb938, 1, none⟩ (.slice Ao14 t942.length co14)).setCell ⟨gb938, 2, none⟩ (.int .i64 t945)).setCell ⟨gb939, 0, none⟩ (.bool t946)).setCell ⟨gb939, 1, none⟩ (.slice Ao18 t947.length co18)).setCell ⟨gb939, 2, none⟩ (.int .i64 t950))) := ⟨bw_ HB.out⟩
 (try clear HO944)
 (try clear HO949)
 (try clear BK938)
 (try clear BK939)
 (try clear BK940)
 (try clear HB)
 generalize ((((((w12.setCell ⟨gb938, 0, none⟩ (.bool t941)).setCell ⟨gb938, 1, none⟩ (.slice Ao14 t942.length co14)).setCell ⟨gb938, 2, none⟩ (.int .i64 t945)).setCell ⟨gb939, 0, none⟩ (.bool t946)).setCell ⟨gb939, 1, none⟩ (.slice Ao18 t947.length co18)).setCell ⟨gb939, 2, none⟩ (.int .i64 t950)) = w21 at n0_ n1_ n2_ n3_ n4_ n5_ ⊢
 have HO944 := n0_
 have HO949 := n1_
 have BK938 := n2_
 have BK939 := n3_
 have BK940 := n4_
 have HB := n5_
 clear n0_ n1_ n2_ n3_ n4_ n5_
 replace HO944 := Aside0.mk (Kd.V_drew HO944.out)
 replace HO949 := Aside0.mk (Kd.V_drew HO949.out)
 replace BK938 := Aside0.mk (blk_drew BK938.out)
 replace BK939 := Aside0.mk (blk_drew BK939.out)
 replace BK940 := Aside0.mk (blk_drew BK940.out)
 replace HB := Aside0.mk (below_drew1 HB.out)
 refine start_ (n := 13) (S := fun w' => w'.cell? ⟨gb938, 0, none⟩ = some (.bool t941) ∧ w'.cell? ⟨gb938, 1, none⟩ = some (.slice Ao14 t942.length co14) ∧ w'.cell? ⟨gb938, 2, none⟩ = some (.int .i64 t945) ∧ w'.cell? ⟨gb939, 0, none⟩ = some (.bool t946) ∧ w'.cell? ⟨gb939, 1, none⟩ = some (.slice Ao18 t947.length co18) ∧ w'.cell? ⟨gb939, 2, none⟩ = some (.int .i64 t950)) (ds := []) #[false, false, false, false, false, false, false, false, false, false, false, false, false] (by kernel_rfl) rfl rfl ⟨(blk_cell BK938.out 0).trans rfl, (blk_cell BK938.out 1).trans rfl, (blk_cell BK938.out 2).trans rfl, (blk_cell BK939.out 0).trans rfl, (blk_cell BK939.out 1).trans rfl, (blk_cell BK939.out 2).trans rfl⟩ (fun hHeld => ?_); refine with_tabW dy_Mul.tab2 dy_Mul.bits2 (fun HT_ HW_ => ?_)
 generalize w21.drew = w22 at HO944 HO949 BK938 BK939 BK940 HB hHeld ⊢
 refine pure_ (i := 0) (N := some 9) (v := ?_) (a' := ?_) #[true, false, false, false, false, false, false, false, false, false, false, false, false] rfl rfl (any_of HT_.out (by kernel_rfl)) (fun _ _ _ h => h) (Or.inl ⟨by rfl, ?_⟩) ?_ ?_
 rotate_left
 ·intro w'
  go_simp
  with_reducible rfl
 rotate_left
 ·exact pt_
 refine pure_ (i := 2) (N := some 11) (v := ?_) (a' := ?_) #[true, false, true, false, false, false, false, false, false, false, false, false, false] rfl rfl (any_of HT_.out (by kernel_rfl)) (fun _ _ _ h => h) (Or.inl ⟨by rfl, ?_⟩) ?_ ?_
 rotate_left
 ·intro w'
  go_simp
  with_reducible rfl
 rotate_left
 ·exact pt_
 refine pure_ (i := 6) (N := some 15) (v := ?_) (a' := ?_) #[true, false, true, false, false, false, true, false, false, false, false, false, false] rfl rfl (any_of HT_.out (by kernel_rfl)) (fun _ _ _ h => h) (Or.inl ⟨by rfl, ?_⟩) ?_ ?_
 rotate_left
 ·intro w'
  go_simp
  with_reducible rfl
 rotate_left
 ·exact pt_
 refine pure_ (i := 8) (N := some 17) (v := ?_) (a' := ?_) #[true, false, true, false, false, false, true, false, true, false, false, false, false] rfl rfl (any_of HT_.out (by kernel_rfl)) (fun _ _ _ h => h) (Or.inl ⟨by rfl, ?_⟩) ?_ ?_
 rotate_left
 ·intro w'
  go_simp
  with_reducible rfl
 rotate_left
 ·exact pt_
 refine take_ (i := 1) (N := some 10) (v := ?_) (a' := ?_) #[true, true, true, false, false, false, true, false, true, false, false, false, false] rfl rfl (take_ofW HT_.out HW_.out (by kernel_rfl)) (fun _ _ _ h => h) (Or.inl ⟨by rfl, ?_⟩) hHeld ?_ ?_
 rotate_left
 ·rintro w' ⟨s0, s1, s2, s3, s4, s5⟩
  go_simp
  with_reducible rfl
 rotate_left
 ·exact pt_
 refine take_ (i := 3) (N := some 12) (v := ?_) (a' := ?_) #[true, true, true, true, false, false, true, false, true, false, false, false, false] rfl rfl (take_ofW HT_.out HW_.out (by kernel_rfl)) (fun _ _ _ h => h) (Or.inl ⟨by rfl, ?_⟩) hHeld ?_ ?_
 rotate_left
 ·rintro w' ⟨s0, s1, s2, s3, s4, s5⟩
  go_simp
  with_reducible rfl
 rotate_left
 ·exact pt_
 refine take_ (i := 7) (N := some 16) (v := ?_) (a' := ?_) #[true, true, true, true, false, false, true, true, true, false, false, false, false] rfl rfl (take_ofW HT_.out HW_.out (by kernel_rfl)) (fun _ _ _ h => h) (Or.inl ⟨by rfl, ?_⟩) hHeld ?_ ?_
 rotate_left
 ·rintro w' ⟨s0, s1, s2, s3, s4, s5⟩
  go_simp
  with_reducible rfl
 rotate_left
 ·exact pt_
 refine take_ (i := 9) (N := some 18) (v := ?_) (a' := ?_) #[true, true, true, true, false, false, true, true, true, true, false, false, false] rfl rfl (take_ofW HT_.out HW_.out (by kernel_rfl)) (fun _ _ _ h => h) (Or.inl ⟨by rfl, ?_⟩) hHeld ?_ ?_
 rotate_left
 ·rintro w' ⟨s0, s1, s2, s3, s4, s5⟩
  go_simp
  with_reducible rfl
 rotate_left
 ·exact pt_
 refine pure_ (i := 10) (N := some 19) (v := ?_) (a' := ?_) #[true, true, true, true, false, false, true, true, true, true, true, false, false] rfl rfl (any_of HT_.out (by kernel_rfl)) (fun _ _ _ h => h) (Or.inl ⟨by rfl, ?_⟩) ?_ ?_
 rotate_left
 ·intro w'
  go_simp
  with_reducible rfl
 rotate_left
 ·exact pt_
 refine one_ (i := 4) (N := some 13) #[true, true, true, true, true, false, true, true, true, true, true, false, false] rfl rfl (one_of HT_.out (by kernel_rfl)) (by decide) (fun K hK => ?_)
 refine Kd.N_lit_step k24 _ 24 ?hg (N' := 13) ?hd (xs := ([(⟨t941, t942⟩ : S24), (⟨t946, t947⟩ : S24)] : List (S24))) (inner := [.bool t941, .slice Ao14 t942.length co14, .bool t946, .slice Ao18 t947.length co18]) (ok := (fun k_ => k_ ≠ gb938 ∧ k_ ≠ gb939 ∧ k_ ≠ gb940)) (okp := (fun k_ => k_ ≠ gb938 ∧ k_ ≠ gb939 ∧ k_ ≠ gb940)) ?hr ?hp (fun _ hk => hk) ((show ∀ k_, w22.heap.size ≤ k_ → (fun k_ => k_ ≠ gb938 ∧ k_ ≠ gb939 ∧ k_ ≠ gb940) k_ from fun k_ hk => ⟨Kd.freshB (g := gb938) (o := .cells #[.bool t941, .slice Ao14 t942.length co14, .int .i64 t945] 27 (0, 0)) (kb_ BK938.out) k_ hk, Kd.freshB (g := gb939) (o := .cells #[.bool t946, .slice Ao18 t947.length co18, .int .i64 t950] 27 (0, 0)) (kb_ BK939.out) k_ hk, Kd.freshB (g := gb940) (o := .cells #[.bool false, .slice none 0 0, .int .i64 0] 27 (0, 0)) (kb_ BK940.out) k_ hk⟩) _ (Nat.le_refl _)) (Below.refl _ _) (Nat.le_refl _) (by simp) ?_; (case hd => rfl); (case hg => rfl); (case hr => first | (go_simp; done) | (go_simp; rfl)); (case hp => exact (Reps.c2 (show Kd.FK k24 _ _ (⟨t941, t942⟩ : S24) [.bool t941, .slice Ao14 t942.length co14] from (k24_mkF _ _ (⟨t941, t942⟩ : S24) (Kd.V_reads' (Kd.V_mono (ok' := (fun k_ => k_ ≠ gb938 ∧ k_ ≠ gb939 ∧ k_ ≠ gb940)) (HO944.out) (fun k_ hk => ⟨hk.1, ⟨hk.2.1, hk.2.2⟩⟩))).2.1 (Kd.V_F (Kd.V_mono (ok' := (fun k_ => k_ ≠ gb938 ∧ k_ ≠ gb939 ∧ k_ ≠ gb940)) (HO944.out) (fun k_ hk => ⟨hk.1, ⟨hk.2.1, hk.2.2⟩⟩))))) (Reps.c2 (show Kd.FK k24 _ _ (⟨t946, t947⟩ : S24) [.bool t946, .slice Ao18 t947.length co18] from (k24_mkF _ _ (⟨t946, t947⟩ : S24) (Kd.V_reads' (Kd.V_mono (ok' := (fun k_ => k_ ≠ gb938 ∧ k_ ≠ gb939 ∧ k_ ≠ gb940)) (HO949.out) (fun k_ hk => ⟨hk.1, ⟨hk.2.1, hk.2.2⟩⟩))).2.1 (Kd.V_F (Kd.V_mono (ok' := (fun k_ => k_ ≠ gb938 ∧ k_ ≠ gb939 ∧ k_ ≠ gb940)) (HO949.out) (fun k_ hk => ⟨hk.1, ⟨hk.2.1, hk.2.2⟩⟩))))) (Reps.none _ _))))
 intro v952 w23 ho24 hb hg_ hnew_
 clear hg_ hnew_
 (first | rw [← Ny951.out] at ho24 | (simp only [Int.reduceToNat] at ho24; rw [← Ny951.out] at ho24))
 have n0_ := Aside0.mk (Kd.V_elder' (by (with_reducible repeat (first | apply Kd.V_alloc | apply Kd.V_drewN | apply Kd.V_drew)); exact HO944.out) (Kd.N_base ho24) hb)
 have n1_ := Aside0.mk (Kd.V_elder' (by (with_reducible repeat (first | apply Kd.V_alloc | apply Kd.V_drewN | apply Kd.V_drew)); exact HO949.out) (Kd.N_base ho24) hb)
 have n2_ := Aside0.mk (Kd.N_lower ho24 (below_size (bw_ HB.out)))
 have n3_ := kq_ BK938 hb
 have n4_ := kq_ BK939 hb
 have n5_ := kq_ BK940 hb
 have n6_ := bq_ HB hb
 clear HO944
 clear HO949
 clear BK938
 clear BK939
 clear BK940
 clear HB
 have HO944 := n0_
 have HO949 := n1_
 have HO953 := n2_
 have BK938 := n3_
 have BK939 := n4_
 have BK940 := n5_
 have HB := n6_
 clear n0_ n1_ n2_ n3_ n4_ n5_ n6_
 clear hb ho24
 obtain ⟨Ao25, co25, eo25⟩ := Kd.N_slice HO953.out
 (first | subst eo25 | (injection eo25 with f1_ f2_ f3_; have f4_ := f1_.symm; have f5_ := f3_.symm; clear f1_ f2_ f3_; subst f4_; subst f5_))
 refine hK.out _ _ ⟨(blk_cell BK938.out 0).trans rfl, (blk_cell BK938.out 1).trans rfl, (blk_cell BK938.out 2).trans rfl, (blk_cell BK939.out 0).trans rfl, (blk_cell BK939.out 1).trans rfl, (blk_cell BK939.out 2).trans rfl⟩ (fun hHeld => ?_)
 clear hK K
 refine norm_ (a' := ?_) ?_ ?_
 rotate_left
 ·show Act.put _ (some 13) _ = _
  exact pt_
 refine one_ (i := 5) (N := some 14) #[true, true, true, true, true, true, true, true, true, true, true, false, false] rfl rfl (one_of HT_.out (by kernel_rfl)) (by decide) (fun K hK => ?_)
 refine gs_ Tryd.func57 #[.slice Ao25 y951.length co25] ?_
 with_reducible refine (whole_Mul.calls k _ _ y951 t954 t955 _ ?side1 ?side2 A5.out).mono ?_
 (case side1 => exact kc_ (Kd.N_reads' HO953.out).2.2)
 (case side2 => exact (Kd.N_reads' HO953.out).2.1)
 rintro e w26 ⟨v956, rfl, ho0, hb⟩
 refine ⟨_, rfl, ?_⟩
 have n0_ := Aside0.mk (Kd.V_elder' (by (with_reducible repeat (first | apply Kd.V_alloc | apply Kd.V_drewN | apply Kd.V_drew)); exact HO944.out) (Kd.R_base ho0) hb)
 have n1_ := Aside0.mk (Kd.V_elder' (by (with_reducible repeat (first | apply Kd.V_alloc | apply Kd.V_drewN | apply Kd.V_drew)); exact HO949.out) (Kd.R_base ho0) hb)
 have n2_ := Aside0.mk (Kd.N_elder' (by (with_reducible repeat (first | apply Kd.N_alloc | apply Kd.N_drewN | apply Kd.N_drew)); exact HO953.out) (Kd.R_base ho0) hb)
 have n3_ := Aside0.mk (Kd.R_lower ho0 (below_size (bw_ HB.out)))
 have n4_ := kq_ BK938 hb
 have n5_ := kq_ BK939 hb
 have n6_ := kq_ BK940 hb
 have n7_ := bq_ HB hb
 clear HO944
 clear HO949
 clear HO953
 clear BK938
 clear BK939
 clear BK940
 clear HB
 have HO944 := n0_
 have HO949 := n1_
 have HO953 := n2_
 have HO957 := n3_
 have BK938 := n4_
 have BK939 := n5_
 have BK940 := n6_
 have HB := n7_
 clear n0_ n1_ n2_ n3_ n4_ n5_ n6_ n7_
 (try clear hb)
 (try clear hb2)
 (try clear hk)
 (try clear hi)
 (try clear ho0)
 obtain ⟨Ao27, co27, eo27⟩ := Kd.R_slice HO957.out
 (first | subst eo27 | (injection eo27 with f1_ f2_ f3_; have f4_ := f1_.symm; have f5_ := f3_.symm; clear f1_ f2_ f3_; subst f4_; subst f5_))
 refine hK.out _ _ ⟨(blk_cell BK938.out 0).trans rfl, (blk_cell BK938.out 1).trans rfl, (blk_cell BK938.out 2).trans rfl, (blk_cell BK939.out 0).trans rfl, (blk_cell BK939.out 1).trans rfl, (blk_cell BK939.out 2).trans rfl⟩ (fun hHeld => ?_)
 clear hK K
 refine norm_ (a' := ?_) ?_ ?_
 rotate_left
 ·show Act.put _ (some 14) _ = _
  exact pt_
 refine one_ (i := 11) (N := some 20) #[true, true, true, true, true, true, true, true, true, true, true, true, false] rfl rfl (one_of HT_.out (by kernel_rfl)) (by decide) (fun K hK => ?_)
 refine gs_ Tryd.func10 #[.agg #[.bool t954, .slice Ao27 t955.length co27], .int .i64 (wrap64 (t945 + t950))] ?_
 with_reducible refine (dy_Make.calls k t954 _ _ t955 (wrap64 (t945 + t950)) t958 t959 t962 _ ?side1 ?side2 A6.out ?sidet).mono ?_
 (case sidet => exact Kd.C_below HTAB.out (bw_ HB.out))
 (case side1 => exact kc_ (Kd.R_reads' HO957.out).2.2)
 (case side2 => exact (Kd.R_reads' HO957.out).2.1)
 rintro e w28 ⟨v960, rfl, ho0, hb⟩
 refine ⟨_, rfl, ?_⟩
 have n0_ := Aside0.mk (Kd.V_elder' (by (with_reducible repeat (first | apply Kd.V_alloc | apply Kd.V_drewN | apply Kd.V_drew)); exact HO944.out) (Kd.R_base ho0) hb)
 have n1_ := Aside0.mk (Kd.V_elder' (by (with_reducible repeat (first | apply Kd.V_alloc | apply Kd.V_drewN | apply Kd.V_drew)); exact HO949.out) (Kd.R_base ho0) hb)
 have n2_ := Aside0.mk (Kd.N_elder' (by (with_reducible repeat (first | apply Kd.N_alloc | apply Kd.N_drewN | apply Kd.N_drew)); exact HO953.out) (Kd.R_base ho0) hb)
 have n3_ := Aside0.mk (Kd.R_elder' (kr_ HO957.out) (Kd.R_base ho0) hb)
 have n4_ := Aside0.mk (Kd.R_lower (Kd.R_new' ho0 (Kd.R_lt (kr_ HO957.out))) (below_size (bw_ HB.out)))
 have n5_ := kq_ BK938 hb
 have n6_ := kq_ BK939 hb
 have n7_ := kq_ BK940 hb
 have n8_ := bq_ HB hb
 clear HO944
 clear HO949
 clear HO953
 clear HO957
 clear BK938
 clear BK939
 clear BK940
 clear HB
 have HO944 := n0_
 have HO949 := n1_
 have HO953 := n2_
 have HO957 := n3_
 have HO961 := n4_
 have BK938 := n5_
 have BK939 := n6_
 have BK940 := n7_
 have HB := n8_
 clear n0_ n1_ n2_ n3_ n4_ n5_ n6_ n7_ n8_
 (try clear hb)
 (try clear hb2)
 (try clear hk)
 (try clear hi)
 (try clear ho0)
 obtain ⟨Ao30, co30, eo30⟩ := Kd.R_slice HO961.out
 (first | subst eo30 | (injection eo30 with f1_ f2_ f3_; have f4_ := f1_.symm; have f5_ := f3_.symm; clear f1_ f2_ f3_; subst f4_; subst f5_))
 refine hK.out _ _ ⟨(blk_cell BK938.out 0).trans rfl, (blk_cell BK938.out 1).trans rfl, (blk_cell BK938.out 2).trans rfl, (blk_cell BK939.out 0).trans rfl, (blk_cell BK939.out 1).trans rfl, (blk_cell BK939.out 2).trans rfl⟩ (fun hHeld => ?_)
 clear hK K
 refine norm_ (a' := ?_) ?_ ?_
 rotate_left
 ·show Act.put _ (some 20) _ = _
  exact pt_
 refine one_ (i := 12) (N := none) #[true, true, true, true, true, true, true, true, true, true, true, true, true] rfl rfl (one_of HT_.out (by kernel_rfl)) (by decide) (fun K hK => ?_)
 have hs29 : w28.cell? ⟨gb940, 0, none⟩ = some (.bool false) := (blk_cell BK940.out 0).trans rfl
 have hfs29 := fz_ BK940 0
 have hns29_0 := NB938_940.out
 have hns29_1 := NB939_940.out
 have hms29_0 := NB940_938.out
 have hms29_1 := NB940_939.out
 have hs31 : w28.cell? ⟨gb940, 1, none⟩ = some (.slice none 0 0) := (blk_cell BK940.out 1).trans rfl
 have hfs31 := fz_ BK940 1
 have hns31_0 := NB938_940.out
 have hns31_1 := NB939_940.out
 have hms31_0 := NB940_938.out
 have hms31_1 := NB940_939.out
 have hs32 : w28.cell? ⟨gb940, 2, none⟩ = some (.int .i64 0) := (blk_cell BK940.out 2).trans rfl
 have hfs32 := fz_ BK940 2
 have hns32_0 := NB938_940.out
 have hns32_1 := NB939_940.out
 have hms32_0 := NB940_938.out
 have hms32_1 := NB940_939.out
 refine skip_ (w1 := ?_) (by rfl) rfl ?_ ?_
 rotate_left
 ·go_simp
  rfl
 refine hK.out _ _ ⟨((cell_far (p := ⟨gb940, _, none⟩) NB938_940.out _).trans (((cell_far (p := ⟨gb940, _, none⟩) NB938_940.out _).trans (((cell_far (p := ⟨gb940, _, none⟩) NB938_940.out _).trans (hHeld.1)))))), ((cell_far (p := ⟨gb940, _, none⟩) NB938_940.out _).trans (((cell_far (p := ⟨gb940, _, none⟩) NB938_940.out _).trans (((cell_far (p := ⟨gb940, _, none⟩) NB938_940.out _).trans (hHeld.2.1)))))), ((cell_far (p := ⟨gb940, _, none⟩) NB938_940.out _).trans (((cell_far (p := ⟨gb940, _, none⟩) NB938_940.out _).trans (((cell_far (p := ⟨gb940, _, none⟩) NB938_940.out _).trans (hHeld.2.2.1)))))), ((cell_far (p := ⟨gb940, _, none⟩) NB939_940.out _).trans (((cell_far (p := ⟨gb940, _, none⟩) NB939_940.out _).trans (((cell_far (p := ⟨gb940, _, none⟩) NB939_940.out _).trans (hHeld.2.2.2.1)))))), ((cell_far (p := ⟨gb940, _, none⟩) NB939_940.out _).trans (((cell_far (p := ⟨gb940, _, none⟩) NB939_940.out _).trans (((cell_far (p := ⟨gb940, _, none⟩) NB939_940.out _).trans (hHeld.2.2.2.2.1)))))), ((cell_far (p := ⟨gb940, _, none⟩) NB939_940.out _).trans (((cell_far (p := ⟨gb940, _, none⟩) NB939_940.out _).trans (((cell_far (p := ⟨gb940, _, none⟩) NB939_940.out _).trans (hHeld.2.2.2.2.2))))))⟩ (fun hHeld => ?_)
 clear hK K
 refine done_ (done_of HT_.out (by kernel_rfl)) ?_
 try go_wp2
 refine bodyPost_ret (results_cell_row rfl _ _ gb940 27 #[.bool t958, .slice Ao30 t959.length co30, .int .i64 t962] (0, 0) _ rfl (by refine kb_ ?_; refine bp_ #[.bool t958, .slice Ao30 t959.length co30, .int .i64 0] 2 ?_; refine bp_ #[.bool t958, .slice none 0 0, .int .i64 0] 1 ?_; refine bp_ #[.bool false, .slice none 0 0, .int .i64 0] 0 ?_; exact BK940.out) Tryd.underlying27 rfl (by kernel_rfl)) rfl ?_
 exact ⟨_, rf_, by (with_reducible repeat (first | apply Kd.R_alloc | apply Kd.R_drewN | apply Kd.R_drew)); exact Kd.R_mono (Kd.R_far (p := ⟨gb940, 2, none⟩) (Kd.R_far (p := ⟨gb940, 1, none⟩) (Kd.R_far (p := ⟨gb940, 0, none⟩) (Kd.R_types HO961.out BK940.out (by decide)) (fun _ hk => hk.2) (.bool t958)) (fun _ hk => hk.2) (.slice Ao30 t959.length co30)) (fun _ hk => hk.2) (.int .i64 t962)) (fun _ hk => trivial), bw_ HB.out⟩

end Go.Proofs.YtaookeneeemfbaaDoor.PA
