-- Laid by this work's own program; Lean checks it.
import Derived.Test.YtkemnoejpbknhaaDoorPAx0
import Derived.Test.YtkemnoejpbknhaaDoorPAx2
import Derived.Test.YtkemnoejpbknhaaDoorPAx3
import Derived.Test.YtkemnoejpbknhaaDoorPAx4
namespace Go.Proofs.YtkemnoejpbknhaaDoor.PA
open Go.RowKit Go.Proofs.YtkemnoejpbknhaaDoorW.PrintWords Go.Proofs.YtkemnoejpbknhaaDoorW.PrintLast Go.Proofs.YtkemnoejpbknhaaDoorW.PrintMore
attribute [local go_sem] max2_int min2_int max_two min_two max_three min_three max_four min_four   -- for this text's walks alone
set_option linter.unusedVariables false
set_option linter.unusedSimpArgs false

attribute [local go_sem ↓ high] isSome_set_
/-! ### peloruslaw03_Few: function 35 -/
set_option maxHeartbeats 8000000 in
set_option maxRecDepth 100000 in
theorem peloruslaw03_Few.calls (a0_0 : Bool) (A0_1 : Option Addr) (c0_1 : Nat) (l0_1 : List Int) (a0_2 : Int) (r : Bool) (w : World) (hr0_1 : Kd.C (Kd.int .u32) w A0_1 l0_1.length l0_1) (hc0_1 : l0_1.length ≤ c0_1) (h : peloruslaw03_Few.f a0_0 l0_1 a0_2 = some r) :
  Calls Tryd.prog 35 #[.agg #[.bool a0_0, .slice A0_1 l0_1.length c0_1, .int .i64 a0_2]] w fun e w' => e = .returned (.bool r) ∧ Below w.heap.size w w' := by
 have hu26 := Tryd.underlying26
 have HR0_1 := Aside0.mk hr0_1
 have HC0_1 := Aside0.mk hc0_1
 clear hr0_1 hc0_1
 have HB := Aside0.mk (Below.refl w.heap.size w)
 have H : (if (l0_1.length : Int) ≤ 20 then (if a0_2 ≥ (-1000) then (some (decide (a0_2 ≤ 1000))) else (some false)) else (some false)) = some r := h
 clear h
 by_cases c2 : (l0_1.length : Int) ≤ 20
 ·rw [if_pos c2] at H
  have c2b0 : decide ((l0_1.length : Int) ≤ 20) = true := decide_eq_true c2
  have c2b1 : decide (l0_1.length ≤ 20) = true := decide_eq_true (by omega)
  clear c2
  by_cases c3 : a0_2 ≥ (-1000)
  ·rw [if_pos c3] at H
   have c3b0 : decide ((-1000) ≤ a0_2) = true := decide_eq_true c3
   clear c3
   obtain rfl := Option.some.inj H
   go_enter Tryd.func35, Tryd.ntmps35
   go_wp2_with (first | ((with_reducible refine gate_dst (N := 1) rfl ?_); refine bx_ 1 #[.bool a0_0, .slice A0_1 l0_1.length c0_1, .int .i64 a0_2] 26 ?_; intro gb926 hg w4 hbox hb; have BK926 := Aside0.mk (hbox); have GW926 := ge_ hg HB; have GE926 := ge_ hg HB; replace HB := bq_ HB hb; clear hb hbox hg; obtain ⟨hcz5_0, hcz5_1, hcz5_2, hfz5_0, hfz5_1, hfz5_2⟩ := c3_ BK926))
   go_ret
   exact ⟨rf_, bw_ HB.out⟩
  ·rw [if_neg c3] at H
   have c3b0 : decide ((-1000) ≤ a0_2) = false := decide_eq_false c3
   clear c3
   obtain rfl := Option.some.inj H
   go_enter Tryd.func35, Tryd.ntmps35
   go_wp2_with (first | ((with_reducible refine gate_dst (N := 1) rfl ?_); refine bx_ 1 #[.bool a0_0, .slice A0_1 l0_1.length c0_1, .int .i64 a0_2] 26 ?_; intro gb926 hg w6 hbox hb; have BK926 := Aside0.mk (hbox); have GW926 := ge_ hg HB; have GE926 := ge_ hg HB; replace HB := bq_ HB hb; clear hb hbox hg; obtain ⟨hcz7_0, hcz7_1, hcz7_2, hfz7_0, hfz7_1, hfz7_2⟩ := c3_ BK926))
   go_ret
   exact ⟨rf_, bw_ HB.out⟩
 ·rw [if_neg c2] at H
  have c2b0 : decide ((l0_1.length : Int) ≤ 20) = false := decide_eq_false c2
  have c2b1 : decide (l0_1.length ≤ 20) = false := decide_eq_false (by omega)
  clear c2
  obtain rfl := Option.some.inj H
  go_enter Tryd.func35, Tryd.ntmps35
  go_wp2_with (first | ((with_reducible refine gate_dst (N := 1) rfl ?_); refine bx_ 1 #[.bool a0_0, .slice A0_1 l0_1.length c0_1, .int .i64 a0_2] 26 ?_; intro gb926 hg w8 hbox hb; have BK926 := Aside0.mk (hbox); have GW926 := ge_ hg HB; have GE926 := ge_ hg HB; replace HB := bq_ HB hb; clear hb hbox hg; obtain ⟨hcz9_0, hcz9_1, hcz9_2, hfz9_0, hfz9_1, hfz9_2⟩ := c3_ BK926))
  go_ret
  exact ⟨rf_, bw_ HB.out⟩

/-! ### dy_Sign: function 63 -/
set_option maxHeartbeats 8000000 in
set_option maxRecDepth 100000 in
theorem dy_Sign.calls (k : Nat) (a0_0 : Bool) (A0_1 : Option Addr) (c0_1 : Nat) (l0_1 : List Int) (a0_2 : Int) (r : Int) (w : World) (hr0_1 : Kd.C (Kd.int .u32) w A0_1 l0_1.length l0_1) (hc0_1 : l0_1.length ≤ c0_1) (h : dy_Sign.f k a0_0 l0_1 a0_2 = some r) (htab_ : Kd.C (Kd.int .u8) w (some ⟨0, 0, none⟩) 32 tz32tab) :
  Calls Tryd.prog 63 #[.agg #[.bool a0_0, .slice A0_1 l0_1.length c0_1, .int .i64 a0_2]] w fun e w' => e = .returned (.int .i64 r) ∧ Below w.heap.size w w' := by
 have HTAB := Aside0.mk htab_
 clear htab_
 have hu26 := Tryd.underlying26
 have hfd26_0 := fun (z0 : Bool) (z1 : Option Addr) (z2 z3 : Nat) (z4 : Int) (w_ : World) => (show (Instr.field 26 (.agg #[.bool z0, .slice z1 z2 z3, .int .i64 z4]) 0).run Tryd.prog w_ = .ok (.agg #[.bool z0, .slice z1 z2 z3]) w_ by kernel_rfl)
 have HR0_1 := Aside0.mk hr0_1
 have HC0_1 := Aside0.mk hc0_1
 clear hr0_1 hc0_1
 have HB := Aside0.mk (Below.refl w.heap.size w)
 have H : ((dy_fair.f k a0_0 l0_1 a0_2).bind fun bt928 => ((whole_Sign.f k bt928.1 bt928.2.1).bind fun t933 => (some t933))) = some r := h
 clear h
 replace H := Option.bind_eq_some_iff.mp H
 obtain ⟨⟨t928, t929, t932⟩, A20, H⟩ := H
 (try dsimp only at H)
 have A2 := Aside0.mk A20
 clear A20
 replace H := Option.bind_eq_some_iff.mp H
 obtain ⟨t933, A30, H⟩ := H
 (try dsimp only at H)
 have A3 := Aside0.mk A30
 clear A30
 obtain rfl := Option.some.inj H
 go_enter Tryd.func63, Tryd.ntmps63
 go_wp2_with (first | ((with_reducible refine gate_dst (N := 1) rfl ?_); refine bx_ 1 #[.bool a0_0, .slice A0_1 l0_1.length c0_1, .int .i64 a0_2] 26 ?_; intro gb927 hg w4 hbox hb; have BK927 := Aside0.mk (hbox); have GW927 := ge_ hg HB; have GE927 := ge_ hg HB; replace HB := bq_ HB hb; clear hb hbox hg; obtain ⟨hcz5_0, hcz5_1, hcz5_2, hfz5_0, hfz5_1, hfz5_2⟩ := c3_ BK927) | ((with_reducible refine gate_callee (f := 65) rfl ?_); refine gl_ (some 4) Tryd.func65 #[.agg #[.bool a0_0, .slice A0_1 l0_1.length c0_1, .int .i64 a0_2]] ?_; (with_reducible refine (dy_fair.calls k a0_0 (fun k_ => k_ < w.heap.size) _ _ l0_1 a0_2 t928 t929 t932 _ ?side1 A2.out ?sidet).mono ?_); (case sidet => exact Kd.C_below HTAB.out (bw_ HB.out)); (case side1 => exact Kd.V_mk HC0_1.out (Kd.F_below (Kd.C_F (Kd.heap_int .u32) HR0_1.out) (bw_ HB.out))); rintro e w6 ⟨v930, rfl, ho0, hb⟩; refine ⟨_, rfl, ?_⟩; have n0_ := Aside0.mk (Kd.V_lower (Kd.V_mono (ok' := fun k_ => k_ ≠ gb927) ho0 (fun k_ hk_ => Or.elim hk_ (fun hs_ => fun e_ => Nat.not_le.2 hs_ (by rw [e_]; exact GW927.out)) (fun hn_ => (Kd.freshB (g := gb927) (o := .cells #[.bool a0_0, .slice A0_1 l0_1.length c0_1, .int .i64 a0_2] 26 (0, 0)) (kb_ BK927.out) k_ hn_)))) (below_size (bw_ HB.out))); have n1_ := kq_ BK927 hb; have n2_ := bq_ HB hb; clear BK927; clear HB; have HO931 := n0_; have BK927 := n1_; have HB := n2_; clear n0_ n1_ n2_; (try clear hb); (try clear hb2); (try clear hk); (try clear hi); (try clear ho0); obtain ⟨Ao7, co7, eo7⟩ := Kd.V_slice HO931.out; subst eo7) | ((with_reducible refine gate_callee (f := 75) rfl ?_); refine gl_ (some 6) Tryd.func75 #[.agg #[.bool t928, .slice Ao7 t929.length co7]] ?_; (with_reducible refine (whole_Sign.calls k t928 _ _ t929 t933 _ ?side1 ?side2 A3.out).mono ?_); (case side1 => exact kc_ (Kd.V_reads' HO931.out).2.2); (case side2 => exact (Kd.V_reads' HO931.out).2.1); rintro e w8 ⟨rfl, hb⟩; refine ⟨_, rfl, ?_⟩; have n0_ := Aside0.mk (Kd.V_below (by (with_reducible repeat (first | apply Kd.V_alloc | apply Kd.V_drewN | apply Kd.V_drew)); exact HO931.out) hb); have n1_ := kq_ BK927 hb; have n2_ := bq_ HB hb; clear HO931; clear BK927; clear HB; have HO931 := n0_; have BK927 := n1_; have HB := n2_; clear n0_ n1_ n2_; (try clear hb); (try clear hb2); (try clear hk); (try clear hi)))
 go_ret
 exact ⟨rf_, bw_ HB.out⟩

/-! ### bits_Add32: function 95 -/
set_option maxHeartbeats 8000000 in
set_option maxRecDepth 100000 in
theorem bits_Add32.calls (a0 : Int) (a1 : Int) (a2 : Int) (r1 : Int) (r2 : Int) (w : World) (h : bits_Add32.f a0 a1 a2 = some (r1, r2)) :
  Calls Tryd.prog 95 #[.int .u32 a0, .int .u32 a1, .int .u32 a2] w fun e w' => e = .returned (.tuple #[.int .u32 r1, .int .u32 r2]) ∧ Drawn0 w w' := by
 have H : (some ((IntKind.u64.wrap ((IntKind.u64.wrap ((IntKind.u64.wrap (a0)) + (IntKind.u64.wrap (a1)))) + (IntKind.u64.wrap (a2)))) % 4294967296, ((IntKind.u64.wrap ((IntKind.u64.wrap ((IntKind.u64.wrap (a0)) + (IntKind.u64.wrap (a1)))) + (IntKind.u64.wrap (a2)))) / 4294967296) % 4294967296)) = some (r1, r2) := h
 clear h
 simp only [Option.some.injEq, Prod.mk.injEq] at H
 obtain ⟨rfl, rfl⟩ := H
 go_enter Tryd.func95, Tryd.ntmps95
 go_wp2
 go_ret2
 exact ⟨by first | rfl | (simp; done) | (simp [*]; done), by repeat (first | exact Drawn0.refl _ | apply Drawn0.step)⟩

/-! ### nat_Add: function 93 -/
set_option maxHeartbeats 8000000 in
set_option maxRecDepth 100000 in
theorem nat_Add.calls (k : Nat) (A0 : Option Addr) (c0 : Nat) (l0 : List Int) (A1 : Option Addr) (c1 : Nat) (l1 : List Int) (r : List Int) (w : World) (hr0 : Kd.C (Kd.int .u32) w A0 l0.length l0) (hc0 : l0.length ≤ c0) (hr1 : Kd.C (Kd.int .u32) w A1 l1.length l1) (hc1 : l1.length ≤ c1) (h : nat_Add.f k l0 l1 = some r) :
  Calls Tryd.prog 93 #[.slice A0 l0.length c0, .slice A1 l1.length c1] w fun e w' => ∃ v0_ : Value, e = .returned (v0_) ∧ Kd.R (Kd.int .u32) 53 w' w.heap.size (fun _ => True) v0_ r ∧ Below w.heap.size w w' := by
 have HR0 := Aside0.mk hr0
 have HC0 := Aside0.mk hc0
 clear hr0 hc0
 have HR1 := Aside0.mk hr1
 have HC1 := Aside0.mk hc1
 clear hr1 hc1
 have HB := Aside0.mk (Below.refl w.heap.size w)
 have H : (if (l0.length : Int) < (l1.length : Int) then (if 0 ≤ (wrap64 ((l1.length : Int) + 1)) then (if (wrap64 ((l1.length : Int) + 1) : Int).toNat ≤ 70368744177664 then (nat_Add.l0 k l1 l0 (List.replicate (wrap64 ((l1.length : Int) + 1) : Int).toNat 0) 0 (l1.length : Int) 0) else (none)) else (none)) else (if 0 ≤ (wrap64 ((l0.length : Int) + 1)) then (if (wrap64 ((l0.length : Int) + 1) : Int).toNat ≤ 70368744177664 then (nat_Add.l1 k l0 l1 (List.replicate (wrap64 ((l0.length : Int) + 1) : Int).toNat 0) 0 (l0.length : Int) 0) else (none)) else (none))) = some r := h
 clear h
 by_cases c3 : (l0.length : Int) < (l1.length : Int)
 ·rw [if_pos c3] at H
  have c3b0 : decide ((l0.length : Int) < (l1.length : Int)) = true := decide_eq_true c3
  have c3b1 : decide (l0.length < l1.length) = true := decide_eq_true (Int.ofNat_lt.mp c3)
  clear c3
  obtain ⟨ji4, hji4⟩ : ∃ j_ : Int, (wrap64 ((l1.length : Int) + 1)) = j_ := ⟨_, rfl⟩
  (first | rw [hji4] at H | simp only [hji4] at H)
  have hji4w : (IntKind.i64.wrap ((l1.length : Int) + 1)) = ji4 := (i64_w _).trans hji4
  by_cases c5 : 0 ≤ (ji4)
  ·rw [if_pos c5] at H
   have c5b0 := eq_true c5
   have c5b1 : decide (0 ≤ (ji4)) = true := decide_eq_true c5
   clear c5
   by_cases c6 : (ji4 : Int).toNat ≤ 70368744177664
   ·rw [if_pos c6] at H
    have c6b0 := eq_true c6
    have c6b1 : decide ((ji4 : Int).toNat ≤ 70368744177664) = true := decide_eq_true c6
    clear c6
    obtain ⟨y934, hy934⟩ : ∃ y_ : List Int, y_ = (List.replicate (ji4 : Int).toNat 0) := ⟨_, rfl⟩
    replace H : (nat_Add.l0 k l1 l0 y934 0 (l1.length : Int) 0) = some r := by first | (rw [hy934]; with_reducible exact H) | (have H2_ := (Option.bind_some _ _).symm.trans H; rw [hy934]; with_reducible exact H2_) | (have H2_ := (Option.bind_some _ _).symm.trans H; with_reducible exact H2_) | with_reducible exact H | (rw [hy934]; exact H) | exact H
    have Ny934 := Aside0.mk hy934
    clear hy934
    have H' := Aside0.mk H
    clear H
    go_enter Tryd.func93, Tryd.ntmps93
    go_wp2_with (first | ((with_reducible refine gate_dst (N := 19) rfl ?_); refine Kd.R_make (Kd.int .u32) _ 53 rfl (N := 19) rfl 22 _ _ rfl ji4 rfl rfl Tryd.underlying22 (.int .u32 0) 4 info53 rfl (by decide) (by omega) 0 (ok := fun _ => True) (okp := fun _ => True) rfl (fun _ hk => hk) trivial (of_decide_eq_true (by first | (with_reducible assumption) | assumption)) (Nat.le_trans (Nat.mul_le_mul_right _ (of_decide_eq_true (by first | (with_reducible assumption) | assumption) : ji4.toNat ≤ 70368744177664)) (by omega)) (Below.refl _ _) (Nat.le_refl _) ?_; intro v935 w7 ho8 hb hg_ hnew_; clear hg_ hnew_; (first | rw [← Ny934.out] at ho8 | (simp only [Int.reduceToNat] at ho8; rw [← Ny934.out] at ho8)); have HO936 := Aside0.mk (Kd.R_lower ho8 (below_size (bw_ HB.out))); replace HB := bq_ HB hb; clear hb ho8))
    go_loopg [6, 22] k (fun kq v6 v22 w' => ∃ (x5_1 : List Int) (x6_1 : Int) (x22_1 : Int), v6 = .int .u32 x6_1 ∧ v22 = .int .i64 x22_1 ∧ Aside0 (nat_Add.l0 kq l1 l0 x5_1 x6_1 (l1.length : Int) x22_1 = some r) ∧ Aside0 (kq ≤ k) ∧ Aside0 (Kd.R (Kd.int .u32) 53 w' w.heap.size (fun _ => True) v935 x5_1) ∧ Aside0 (Below w.heap.size w w'))
    case atStart => exact ⟨(y934), (0), (0), (by first | rfl | (simp; done) | (simp [*]; done)), (by first | rfl | (simp; done) | (simp [*]; done)), H', ⟨Nat.le_refl _⟩, ⟨by (with_reducible repeat (first | apply Kd.R_alloc | apply Kd.R_drewN | apply Kd.R_drew)); exact HO936.out⟩, ⟨bw_ HB.out⟩⟩
    case round =>
     clear H'
     try clear c1
     try clear p2
     try clear c3
     try clear c3b0
     try clear c3b1
     try clear c5
     try clear c5b0
     try clear c5b1
     try clear c6
     try clear c6b0
     try clear c6b1
     try clear p6
     obtain ⟨x5_1, x6_1, x22_1, rfl, rfl, HA, HK1, HO_5, HB⟩ := hrel
     cases gk with
     | zero => exact absurd HA.out (by simp [nat_Add.l0])
     | succ k1 =>
      have H := HA.out
      clear HA
      simp only [nat_Add.l0] at H
      by_cases c9 : x22_1 < (l1.length : Int)
      ·rw [if_pos c9] at H
       have c9b0 : decide (x22_1 < (l1.length : Int)) = true := decide_eq_true c9
       clear c9
       by_cases c10 : x22_1 < (l0.length : Int)
       ·rw [if_pos c10] at H
        have c10b0 : decide (x22_1 < (l0.length : Int)) = true := decide_eq_true c10
        clear c10
        by_cases c11 : 0 ≤ x22_1
        ·rw [if_pos c11] at H
         have c11b0 : decide (0 ≤ x22_1) = true := decide_eq_true c11
         clear c11
         by_cases c12 : x22_1 < (l1.length : Int)
         ·rw [if_pos c12] at H
          have c12b0 : decide (x22_1 < (l1.length : Int)) = true := decide_eq_true c12
          clear c12
          replace H := Option.bind_eq_some_iff.mp H
          obtain ⟨⟨t939, t940⟩, A130, H⟩ := H
          (try dsimp only at H)
          have A13 := Aside0.mk A130
          clear A130
          by_cases c14 : x22_1 < (x5_1.length : Int)
          ·rw [if_pos c14] at H
           have c14b0 : decide (x22_1 < (x5_1.length : Int)) = true := decide_eq_true c14
           clear c14
           obtain ⟨y941, hy941⟩ : ∃ y_ : List Int, y_ = (x5_1.set (x22_1 : Int).toNat t939) := ⟨_, rfl⟩
           replace H : (nat_Add.l0 k1 l1 l0 y941 t940 (l1.length : Int) (wrap64 (x22_1 + 1))) = some r := by first | (rw [hy941]; with_reducible exact H) | (have H2_ := (Option.bind_some _ _).symm.trans H; rw [hy941]; with_reducible exact H2_) | (have H2_ := (Option.bind_some _ _).symm.trans H; with_reducible exact H2_) | with_reducible exact H | (rw [hy941]; exact H) | exact H
           have Ny941 := Aside0.mk hy941
           clear hy941
           have H' := Aside0.mk H
           clear H
           have p937 : 0 ≤ (x22_1 : Int) := of_decide_eq_true (by first | (with_reducible assumption) | assumption)
           have q937 : x22_1 < (l0.length : Int) := of_decide_eq_true (by first | (with_reducible assumption) | assumption)
           obtain ⟨ad937, e937, hx937_0⟩ := Kd.at_int HR0.out x22_1 p937 q937
           cases e937
           replace hx937_0 := (HB.out.cell (World.block_lt_of_cell? w _ hx937_0)).trans hx937_0
           replace p937 := eq_true p937
           replace q937 := eq_true q937
           have p938 : 0 ≤ (x22_1 : Int) := of_decide_eq_true (by first | (with_reducible assumption) | assumption)
           have q938 : x22_1 < (l1.length : Int) := of_decide_eq_true (by first | (with_reducible assumption) | assumption)
           obtain ⟨ad938, e938, hx938_0⟩ := Kd.at_int HR1.out x22_1 p938 q938
           cases e938
           replace hx938_0 := (HB.out.cell (World.block_lt_of_cell? w _ hx938_0)).trans hx938_0
           replace p938 := eq_true p938
           replace q938 := eq_true q938
           go_wp2_with (first | ((with_reducible refine gate_callee (f := 95) rfl ?_); refine gl_ (some 42) Tryd.func95 #[.int .u32 (rd l1 x22_1), .int .u32 (rd l0 x22_1), .int .u32 x6_1] ?_; (with_reducible refine (bits_Add32.calls (rd l1 x22_1) (rd l0 x22_1) x6_1 t939 t940 _ A13.out).mono ?_); rintro e w' ⟨rfl, ⟨nd, rfl⟩⟩; refine ⟨_, rfl, ?_⟩; (try (rw [drewN_self wr]; generalize hq_ : World.drewN wr _ = wr; have n0_ : Aside0 (Kd.R (Kd.int .u32) 53 wr w.heap.size (fun _ => True) v935 x5_1) := ⟨by rw [← hq_]; exact (kr_ HO_5.out)⟩; have n1_ : Aside0 (Below w.heap.size w wr) := ⟨by rw [← hq_]; exact (bw_ HB.out)⟩; clear HO_5 HB hq_; have HO_5 := n0_; have HB := n1_; clear n0_ n1_)); have p15 : 0 ≤ (x22_1 : Int) := of_decide_eq_true (by first | (with_reducible assumption) | assumption); have q15 : (x22_1 : Int) < ((x5_1.length : Int) : Int) := of_decide_eq_true (by first | (with_reducible assumption) | assumption); obtain ⟨go15, co15, eo15, gb15, gl15, cl15, HG15⟩ := Kd.R_form HO_5.out (by omega); (first | cases eo15 | (injection eo15 with ea_ en_ ec_; (first | subst ea_ | (injection ea_ with ea_; subst ea_)); subst ec_; clear en_)); have GB15 := Aside0.mk gb15; have GG15 := Aside0.mk HG15; clear gb15 gl15 HG15; obtain ⟨hx15_0, hf15_0⟩ := Kd.R_celln 0 HO_5.out (x22_1 : Int) p15 q15; replace p15 := eq_true p15; replace q15 := eq_true q15; obtain ⟨hy16_, hz16_⟩ := Kd.R_celln 0 HO_5.out (x22_1 : Int) (of_decide_eq_true (by first | (with_reducible assumption) | assumption)) (of_decide_eq_true (by first | (with_reducible assumption) | assumption)); have HP16 := Kd.R_putg HO_5.out (x22_1 : Int) t939) | ((with_reducible refine gate_store (t := 53) (p := 45) rfl ?_); refine store_event (t := 53) (p := 45) (v := ?vo_w17) (w1 := (wr.setCell ⟨go15, (x22_1 : Int).toNat, none⟩ (.int .u32 t939))) ?hg ?ho ?hn ?hr ?_; (case ho => rfl); (case hg => rfl); (case hn => rfl); (case hr => first | (go_simp; done) | (go_simp; rfl)); intro w17 hw; have hg : wr.grownBy w17 (some go15) := (by rw [hw]; exact HP16.2); have hp_ : Kd.R (Kd.int .u32) 53 w17 w.heap.size (fun _ => True) (.slice (some ⟨go15, 0, none⟩) x5_1.length co15) y941 := (by rw [hw, Ny941.out]; exact HP16.1); clear HP16; have n0_ := Aside0.mk (hp_); have n1_ := Aside0.mk ((by rw [hw]; exact below_set (HB.out) GB15.out : Below w.heap.size w w17)); clear HO_5; clear HB; have HO_5 := n0_; have HB := n1_; clear n0_ n1_; clear hg hw hp_))
           go_roundg k1
           case measure => have := HK1.out; omega
           case rel => exact ⟨(y941), (t940), (wrap64 (x22_1 + 1)), (by first | rfl | (simp; done) | (simp [*]; done)), (by first | rfl | (simp; done) | (simp [*]; done)), H', ⟨by have := HK1.out; omega⟩, ⟨by (with_reducible repeat (first | apply Kd.R_alloc | apply Kd.R_drewN | apply Kd.R_drew)); exact HO_5.out⟩, ⟨bw_ HB.out⟩⟩
          ·rw [if_neg c14] at H
           exact absurd H (by simp)
         ·rw [if_neg c12] at H
          exact absurd H (by simp)
        ·rw [if_neg c11] at H
         exact absurd H (by simp)
       ·rw [if_neg c10] at H
        have c10b0 : decide (x22_1 < (l0.length : Int)) = false := decide_eq_false c10
        clear c10
        by_cases c18 : 0 ≤ x22_1
        ·rw [if_pos c18] at H
         have c18b0 : decide (0 ≤ x22_1) = true := decide_eq_true c18
         clear c18
         by_cases c19 : x22_1 < (l1.length : Int)
         ·rw [if_pos c19] at H
          have c19b0 : decide (x22_1 < (l1.length : Int)) = true := decide_eq_true c19
          clear c19
          replace H := Option.bind_eq_some_iff.mp H
          obtain ⟨⟨t943, t944⟩, A200, H⟩ := H
          (try dsimp only at H)
          have A20 := Aside0.mk A200
          clear A200
          by_cases c21 : x22_1 < (x5_1.length : Int)
          ·rw [if_pos c21] at H
           have c21b0 : decide (x22_1 < (x5_1.length : Int)) = true := decide_eq_true c21
           clear c21
           obtain ⟨y945, hy945⟩ : ∃ y_ : List Int, y_ = (x5_1.set (x22_1 : Int).toNat t943) := ⟨_, rfl⟩
           replace H : (nat_Add.l0 k1 l1 l0 y945 t944 (l1.length : Int) (wrap64 (x22_1 + 1))) = some r := by first | (rw [hy945]; with_reducible exact H) | (have H2_ := (Option.bind_some _ _).symm.trans H; rw [hy945]; with_reducible exact H2_) | (have H2_ := (Option.bind_some _ _).symm.trans H; with_reducible exact H2_) | with_reducible exact H | (rw [hy945]; exact H) | exact H
           have Ny945 := Aside0.mk hy945
           clear hy945
           have H' := Aside0.mk H
           clear H
           have p942 : 0 ≤ (x22_1 : Int) := of_decide_eq_true (by first | (with_reducible assumption) | assumption)
           have q942 : x22_1 < (l1.length : Int) := of_decide_eq_true (by first | (with_reducible assumption) | assumption)
           obtain ⟨ad942, e942, hx942_0⟩ := Kd.at_int HR1.out x22_1 p942 q942
           cases e942
           replace hx942_0 := (HB.out.cell (World.block_lt_of_cell? w _ hx942_0)).trans hx942_0
           replace p942 := eq_true p942
           replace q942 := eq_true q942
           go_wp2_with (first | ((with_reducible refine gate_callee (f := 95) rfl ?_); refine gl_ (some 42) Tryd.func95 #[.int .u32 (rd l1 x22_1), .int .u32 0, .int .u32 x6_1] ?_; (with_reducible refine (bits_Add32.calls (rd l1 x22_1) 0 x6_1 t943 t944 _ A20.out).mono ?_); rintro e w' ⟨rfl, ⟨nd, rfl⟩⟩; refine ⟨_, rfl, ?_⟩; (try (rw [drewN_self wr]; generalize hq_ : World.drewN wr _ = wr; have n0_ : Aside0 (Kd.R (Kd.int .u32) 53 wr w.heap.size (fun _ => True) v935 x5_1) := ⟨by rw [← hq_]; exact (kr_ HO_5.out)⟩; have n1_ : Aside0 (Below w.heap.size w wr) := ⟨by rw [← hq_]; exact (bw_ HB.out)⟩; clear HO_5 HB hq_; have HO_5 := n0_; have HB := n1_; clear n0_ n1_)); have p22 : 0 ≤ (x22_1 : Int) := of_decide_eq_true (by first | (with_reducible assumption) | assumption); have q22 : (x22_1 : Int) < ((x5_1.length : Int) : Int) := of_decide_eq_true (by first | (with_reducible assumption) | assumption); obtain ⟨go22, co22, eo22, gb22, gl22, cl22, HG22⟩ := Kd.R_form HO_5.out (by omega); (first | cases eo22 | (injection eo22 with ea_ en_ ec_; (first | subst ea_ | (injection ea_ with ea_; subst ea_)); subst ec_; clear en_)); have GB22 := Aside0.mk gb22; have GG22 := Aside0.mk HG22; clear gb22 gl22 HG22; obtain ⟨hx22_0, hf22_0⟩ := Kd.R_celln 0 HO_5.out (x22_1 : Int) p22 q22; replace p22 := eq_true p22; replace q22 := eq_true q22; obtain ⟨hy23_, hz23_⟩ := Kd.R_celln 0 HO_5.out (x22_1 : Int) (of_decide_eq_true (by first | (with_reducible assumption) | assumption)) (of_decide_eq_true (by first | (with_reducible assumption) | assumption)); have HP23 := Kd.R_putg HO_5.out (x22_1 : Int) t943) | ((with_reducible refine gate_store (t := 53) (p := 45) rfl ?_); refine store_event (t := 53) (p := 45) (v := ?vo_w24) (w1 := (wr.setCell ⟨go22, (x22_1 : Int).toNat, none⟩ (.int .u32 t943))) ?hg ?ho ?hn ?hr ?_; (case ho => rfl); (case hg => rfl); (case hn => rfl); (case hr => first | (go_simp; done) | (go_simp; rfl)); intro w24 hw; have hg : wr.grownBy w24 (some go22) := (by rw [hw]; exact HP23.2); have hp_ : Kd.R (Kd.int .u32) 53 w24 w.heap.size (fun _ => True) (.slice (some ⟨go22, 0, none⟩) x5_1.length co22) y945 := (by rw [hw, Ny945.out]; exact HP23.1); clear HP23; have n0_ := Aside0.mk (hp_); have n1_ := Aside0.mk ((by rw [hw]; exact below_set (HB.out) GB22.out : Below w.heap.size w w24)); clear HO_5; clear HB; have HO_5 := n0_; have HB := n1_; clear n0_ n1_; clear hg hw hp_))
           go_roundg k1
           case measure => have := HK1.out; omega
           case rel => exact ⟨(y945), (t944), (wrap64 (x22_1 + 1)), (by first | rfl | (simp; done) | (simp [*]; done)), (by first | rfl | (simp; done) | (simp [*]; done)), H', ⟨by have := HK1.out; omega⟩, ⟨by (with_reducible repeat (first | apply Kd.R_alloc | apply Kd.R_drewN | apply Kd.R_drew)); exact HO_5.out⟩, ⟨bw_ HB.out⟩⟩
          ·rw [if_neg c21] at H
           exact absurd H (by simp)
         ·rw [if_neg c19] at H
          exact absurd H (by simp)
        ·rw [if_neg c18] at H
         exact absurd H (by simp)
      ·rw [if_neg c9] at H
       have c9b0 : decide (x22_1 < (l1.length : Int)) = false := decide_eq_false c9
       clear c9
       by_cases c25 : 0 ≤ (l1.length : Int)
       ·rw [if_pos c25] at H
        have c25b0 : decide (0 ≤ (l1.length : Int)) = true := decide_eq_true c25
        have c25b1 : decide (0 ≤ l1.length) = true := decide_eq_true (by omega)
        clear c25
        by_cases c26 : (l1.length : Int) < (x5_1.length : Int)
        ·rw [if_pos c26] at H
         have c26b0 : decide ((l1.length : Int) < (x5_1.length : Int)) = true := decide_eq_true c26
         have c26b1 : decide (l1.length < x5_1.length) = true := decide_eq_true (Int.ofNat_lt.mp c26)
         clear c26
         obtain ⟨y946, hy946⟩ : ∃ y_ : List Int, y_ = (x5_1.set ((l1.length : Int) : Int).toNat x6_1) := ⟨_, rfl⟩
         replace H : ((nat_cut_own.f k1 y946).bind fun t947 => (some t947)) = some r := by first | (rw [hy946]; with_reducible exact H) | (have H2_ := (Option.bind_some _ _).symm.trans H; rw [hy946]; with_reducible exact H2_) | (have H2_ := (Option.bind_some _ _).symm.trans H; with_reducible exact H2_) | with_reducible exact H | (rw [hy946]; exact H) | exact H
         have Ny946 := Aside0.mk hy946
         clear hy946
         replace H := Option.bind_eq_some_iff.mp H
         obtain ⟨t947, A280, H⟩ := H
         (try dsimp only at H)
         have A28 := Aside0.mk A280
         clear A280
         obtain rfl := Option.some.inj H
         have p27 : 0 ≤ ((l1.length : Int) : Int) := of_decide_eq_true (by first | (with_reducible assumption) | assumption)
         have q27 : ((l1.length : Int) : Int) < ((x5_1.length : Int) : Int) := of_decide_eq_true (by first | (with_reducible assumption) | assumption)
         obtain ⟨go27, co27, eo27, gb27, gl27, cl27, HG27⟩ := Kd.R_form HO_5.out (by omega)
         (first | cases eo27 | (injection eo27 with ea_ en_ ec_; (first | subst ea_ | (injection ea_ with ea_; subst ea_)); subst ec_; clear en_))
         have GB27 := Aside0.mk gb27
         have GG27 := Aside0.mk HG27
         clear gb27 gl27 HG27
         obtain ⟨hx27_0, hf27_0⟩ := Kd.R_celln 0 HO_5.out ((l1.length : Int) : Int) p27 q27
         (try simp only [Int.toNat_natCast] at hx27_0 hf27_0)
         replace p27 := eq_true p27
         replace q27 := eq_true q27
         have HP29 := Kd.R_putg HO_5.out ((l1.length : Int) : Int) x6_1
         go_wp2_with (first | ((with_reducible refine gate_store (t := 53) (p := 51) rfl ?_); refine store_event (t := 53) (p := 51) (v := ?vo_w30) (w1 := (wr.setCell ⟨go27, ((l1.length : Int) : Int).toNat, none⟩ (.int .u32 x6_1))) ?hg ?ho ?hn ?hr ?_; (case ho => rfl); (case hg => rfl); (case hn => rfl); (case hr => first | (go_simp; done) | (go_simp; rfl)); intro w30 hw; have hg : wr.grownBy w30 (some go27) := (by rw [hw]; exact HP29.2); have hp_ : Kd.R (Kd.int .u32) 53 w30 w.heap.size (fun _ => True) (.slice (some ⟨go27, 0, none⟩) x5_1.length co27) y946 := (by rw [hw, Ny946.out]; exact HP29.1); clear HP29; have n0_ := Aside0.mk (hp_); have n1_ := Aside0.mk ((by rw [hw]; exact below_set (HB.out) GB27.out : Below w.heap.size w w30)); clear HO_5; clear HB; have HO_5 := n0_; have HB := n1_; clear n0_ n1_; clear hg hw hp_) | ((with_reducible refine gate_callee (f := 66) rfl ?_); refine gl_ (some 53) Tryd.func66 #[.slice (some ⟨go27, 0, none⟩) x5_1.length co27] ?_; (with_reducible refine (nat_cut_own.calls k1 (fun k_ => some k_ = (.slice (some ⟨go27, 0, none⟩) x5_1.length co27 : Value).ownBlock) (.slice (some ⟨go27, 0, none⟩) x5_1.length co27) y946 t947 w _ ?side1 ?side2 A28.out).mono ?_); (case side1 => repeat (first | (with_reducible first | exact HB.out | apply below_alloc | apply pw_below_drewN | apply below_drew1) | exact HB.out)); (case side2 => exact Kd.R_tight rfl HO_5.out); rintro e w31 ⟨v948, rfl, ho0, hb, hkp⟩; refine ⟨_, rfl, ?_⟩; have HO949 := Aside0.mk (Kd.R_mono (ok' := fun k_ => True) ho0 (fun k_ hk_ => trivial)); replace HB := Aside0.mk (hb); clear HO_5; (try clear hb); (try clear hkp); (try clear ho0)))
         go_ret
         exact ⟨_, by first | rfl | (simp [errW_none, errW_some] <;> rfl) | (simp only [← hji4]; first | rfl | (simp [errW_none, errW_some] <;> rfl)) | (simp [*, errW_none, errW_some] <;> rfl), by (with_reducible repeat (first | apply Kd.R_alloc | apply Kd.R_drewN | apply Kd.R_drew)); exact HO949.out, bw_ HB.out⟩
        ·rw [if_neg c26] at H
         exact absurd H (by simp)
       ·rw [if_neg c25] at H
        exact absurd H (by simp)
   ·rw [if_neg c6] at H
    exact absurd H (by simp)
  ·rw [if_neg c5] at H
   exact absurd H (by simp)
 ·rw [if_neg c3] at H
  have c3b0 : decide ((l0.length : Int) < (l1.length : Int)) = false := decide_eq_false c3
  have c3b1 : decide (l0.length < l1.length) = false := decide_eq_false (fun h => c3 (Int.ofNat_lt.mpr h))
  clear c3
  obtain ⟨ji32, hji32⟩ : ∃ j_ : Int, (wrap64 ((l0.length : Int) + 1)) = j_ := ⟨_, rfl⟩
  (first | rw [hji32] at H | simp only [hji32] at H)
  have hji32w : (IntKind.i64.wrap ((l0.length : Int) + 1)) = ji32 := (i64_w _).trans hji32
  by_cases c33 : 0 ≤ (ji32)
  ·rw [if_pos c33] at H
   have c33b0 := eq_true c33
   have c33b1 : decide (0 ≤ (ji32)) = true := decide_eq_true c33
   clear c33
   by_cases c34 : (ji32 : Int).toNat ≤ 70368744177664
   ·rw [if_pos c34] at H
    have c34b0 := eq_true c34
    have c34b1 : decide ((ji32 : Int).toNat ≤ 70368744177664) = true := decide_eq_true c34
    clear c34
    obtain ⟨y950, hy950⟩ : ∃ y_ : List Int, y_ = (List.replicate (ji32 : Int).toNat 0) := ⟨_, rfl⟩
    replace H : (nat_Add.l1 k l0 l1 y950 0 (l0.length : Int) 0) = some r := by first | (rw [hy950]; with_reducible exact H) | (have H2_ := (Option.bind_some _ _).symm.trans H; rw [hy950]; with_reducible exact H2_) | (have H2_ := (Option.bind_some _ _).symm.trans H; with_reducible exact H2_) | with_reducible exact H | (rw [hy950]; exact H) | exact H
    have Ny950 := Aside0.mk hy950
    clear hy950
    have H' := Aside0.mk H
    clear H
    go_enter Tryd.func93, Tryd.ntmps93
    go_wp2_with (first | ((with_reducible refine gate_dst (N := 19) rfl ?_); refine Kd.R_make (Kd.int .u32) _ 53 rfl (N := 19) rfl 22 _ _ rfl ji32 rfl rfl Tryd.underlying22 (.int .u32 0) 4 info53 rfl (by decide) (by omega) 0 (ok := fun _ => True) (okp := fun _ => True) rfl (fun _ hk => hk) trivial (of_decide_eq_true (by first | (with_reducible assumption) | assumption)) (Nat.le_trans (Nat.mul_le_mul_right _ (of_decide_eq_true (by first | (with_reducible assumption) | assumption) : ji32.toNat ≤ 70368744177664)) (by omega)) (Below.refl _ _) (Nat.le_refl _) ?_; intro v951 w35 ho36 hb hg_ hnew_; clear hg_ hnew_; (first | rw [← Ny950.out] at ho36 | (simp only [Int.reduceToNat] at ho36; rw [← Ny950.out] at ho36)); have HO952 := Aside0.mk (Kd.R_lower ho36 (below_size (bw_ HB.out))); replace HB := bq_ HB hb; clear hb ho36))
    go_loopg [6, 22] k (fun kq v6 v22 w' => ∃ (x5_1 : List Int) (x6_1 : Int) (x22_1 : Int), v6 = .int .u32 x6_1 ∧ v22 = .int .i64 x22_1 ∧ Aside0 (nat_Add.l1 kq l0 l1 x5_1 x6_1 (l0.length : Int) x22_1 = some r) ∧ Aside0 (kq ≤ k) ∧ Aside0 (Kd.R (Kd.int .u32) 53 w' w.heap.size (fun _ => True) v951 x5_1) ∧ Aside0 (Below w.heap.size w w'))
    case atStart => exact ⟨(y950), (0), (0), (by first | rfl | (simp; done) | (simp [*]; done)), (by first | rfl | (simp; done) | (simp [*]; done)), H', ⟨Nat.le_refl _⟩, ⟨by (with_reducible repeat (first | apply Kd.R_alloc | apply Kd.R_drewN | apply Kd.R_drew)); exact HO952.out⟩, ⟨bw_ HB.out⟩⟩
    case round =>
     clear H'
     try clear c1
     try clear p1
     try clear q1
     try clear hx1
     try clear c2
     try clear p2
     try clear q2
     try clear hx2
     try clear hf2
     try clear c3
     try clear c3b0
     try clear c3b1
     try clear c5
     try clear c5b0
     try clear c5b1
     try clear c6
     try clear c6b0
     try clear c6b1
     try clear p6
     try clear c9
     try clear c9b0
     try clear p9
     try clear q9
     try clear hx9
     try clear c10
     try clear c10b0
     try clear c11
     try clear c11b0
     try clear c12
     try clear c12b0
     try clear c14
     try clear c14b0
     try clear p15
     try clear q15
     try clear hx15
     try clear hf15
     try clear c18
     try clear c18b0
     try clear c19
     try clear c19b0
     try clear c21
     try clear c21b0
     try clear p22
     try clear q22
     try clear hx22
     try clear hf22
     try clear c25
     try clear c25b0
     try clear c25b1
     try clear c26
     try clear c26b0
     try clear c26b1
     try clear p27
     try clear q27
     try clear hx27
     try clear hf27
     try clear c33
     try clear c33b0
     try clear c33b1
     try clear c34
     try clear c34b0
     try clear c34b1
     try clear hx15_0
     try clear hx22_0
     try clear hx27_0
     try clear hx937_0
     try clear hx938_0
     try clear hx942_0
     try clear p15
     try clear p2
     try clear p22
     try clear p27
     try clear p6
     try clear p937
     try clear p938
     try clear p942
     try clear q15
     try clear q22
     try clear q27
     try clear q937
     try clear q938
     try clear q942
     obtain ⟨x5_1, x6_1, x22_1, rfl, rfl, HA, HK1, HO_5, HB⟩ := hrel
     cases gk with
     | zero => exact absurd HA.out (by simp [nat_Add.l1])
     | succ k1 =>
      have H := HA.out
      clear HA
      simp only [nat_Add.l1] at H
      by_cases c37 : x22_1 < (l0.length : Int)
      ·rw [if_pos c37] at H
       have c37b0 : decide (x22_1 < (l0.length : Int)) = true := decide_eq_true c37
       clear c37
       by_cases c38 : x22_1 < (l1.length : Int)
       ·rw [if_pos c38] at H
        have c38b0 : decide (x22_1 < (l1.length : Int)) = true := decide_eq_true c38
        clear c38
        by_cases c39 : 0 ≤ x22_1
        ·rw [if_pos c39] at H
         have c39b0 : decide (0 ≤ x22_1) = true := decide_eq_true c39
         clear c39
         by_cases c40 : x22_1 < (l0.length : Int)
         ·rw [if_pos c40] at H
          have c40b0 : decide (x22_1 < (l0.length : Int)) = true := decide_eq_true c40
          clear c40
          replace H := Option.bind_eq_some_iff.mp H
          obtain ⟨⟨t955, t956⟩, A410, H⟩ := H
          (try dsimp only at H)
          have A41 := Aside0.mk A410
          clear A410
          by_cases c42 : x22_1 < (x5_1.length : Int)
          ·rw [if_pos c42] at H
           have c42b0 : decide (x22_1 < (x5_1.length : Int)) = true := decide_eq_true c42
           clear c42
           obtain ⟨y957, hy957⟩ : ∃ y_ : List Int, y_ = (x5_1.set (x22_1 : Int).toNat t955) := ⟨_, rfl⟩
           replace H : (nat_Add.l1 k1 l0 l1 y957 t956 (l0.length : Int) (wrap64 (x22_1 + 1))) = some r := by first | (rw [hy957]; with_reducible exact H) | (have H2_ := (Option.bind_some _ _).symm.trans H; rw [hy957]; with_reducible exact H2_) | (have H2_ := (Option.bind_some _ _).symm.trans H; with_reducible exact H2_) | with_reducible exact H | (rw [hy957]; exact H) | exact H
           have Ny957 := Aside0.mk hy957
           clear hy957
           have H' := Aside0.mk H
           clear H
           have p953 : 0 ≤ (x22_1 : Int) := of_decide_eq_true (by first | (with_reducible assumption) | assumption)
           have q953 : x22_1 < (l1.length : Int) := of_decide_eq_true (by first | (with_reducible assumption) | assumption)
           obtain ⟨ad953, e953, hx953_0⟩ := Kd.at_int HR1.out x22_1 p953 q953
           cases e953
           replace hx953_0 := (HB.out.cell (World.block_lt_of_cell? w _ hx953_0)).trans hx953_0
           replace p953 := eq_true p953
           replace q953 := eq_true q953
           have p954 : 0 ≤ (x22_1 : Int) := of_decide_eq_true (by first | (with_reducible assumption) | assumption)
           have q954 : x22_1 < (l0.length : Int) := of_decide_eq_true (by first | (with_reducible assumption) | assumption)
           obtain ⟨ad954, e954, hx954_0⟩ := Kd.at_int HR0.out x22_1 p954 q954
           cases e954
           replace hx954_0 := (HB.out.cell (World.block_lt_of_cell? w _ hx954_0)).trans hx954_0
           replace p954 := eq_true p954
           replace q954 := eq_true q954
           go_wp2_with (first | ((with_reducible refine gate_callee (f := 95) rfl ?_); refine gl_ (some 42) Tryd.func95 #[.int .u32 (rd l0 x22_1), .int .u32 (rd l1 x22_1), .int .u32 x6_1] ?_; (with_reducible refine (bits_Add32.calls (rd l0 x22_1) (rd l1 x22_1) x6_1 t955 t956 _ A41.out).mono ?_); rintro e w' ⟨rfl, ⟨nd, rfl⟩⟩; refine ⟨_, rfl, ?_⟩; (try (rw [drewN_self wr]; generalize hq_ : World.drewN wr _ = wr; have n0_ : Aside0 (Kd.R (Kd.int .u32) 53 wr w.heap.size (fun _ => True) v951 x5_1) := ⟨by rw [← hq_]; exact (kr_ HO_5.out)⟩; have n1_ : Aside0 (Below w.heap.size w wr) := ⟨by rw [← hq_]; exact (bw_ HB.out)⟩; clear HO_5 HB hq_; have HO_5 := n0_; have HB := n1_; clear n0_ n1_)); have p43 : 0 ≤ (x22_1 : Int) := of_decide_eq_true (by first | (with_reducible assumption) | assumption); have q43 : (x22_1 : Int) < ((x5_1.length : Int) : Int) := of_decide_eq_true (by first | (with_reducible assumption) | assumption); obtain ⟨go43, co43, eo43, gb43, gl43, cl43, HG43⟩ := Kd.R_form HO_5.out (by omega); (first | cases eo43 | (injection eo43 with ea_ en_ ec_; (first | subst ea_ | (injection ea_ with ea_; subst ea_)); subst ec_; clear en_)); have GB43 := Aside0.mk gb43; have GG43 := Aside0.mk HG43; clear gb43 gl43 HG43; obtain ⟨hx43_0, hf43_0⟩ := Kd.R_celln 0 HO_5.out (x22_1 : Int) p43 q43; replace p43 := eq_true p43; replace q43 := eq_true q43; obtain ⟨hy44_, hz44_⟩ := Kd.R_celln 0 HO_5.out (x22_1 : Int) (of_decide_eq_true (by first | (with_reducible assumption) | assumption)) (of_decide_eq_true (by first | (with_reducible assumption) | assumption)); have HP44 := Kd.R_putg HO_5.out (x22_1 : Int) t955) | ((with_reducible refine gate_store (t := 53) (p := 45) rfl ?_); refine store_event (t := 53) (p := 45) (v := ?vo_w45) (w1 := (wr.setCell ⟨go43, (x22_1 : Int).toNat, none⟩ (.int .u32 t955))) ?hg ?ho ?hn ?hr ?_; (case ho => rfl); (case hg => rfl); (case hn => rfl); (case hr => first | (go_simp; done) | (go_simp; rfl)); intro w45 hw; have hg : wr.grownBy w45 (some go43) := (by rw [hw]; exact HP44.2); have hp_ : Kd.R (Kd.int .u32) 53 w45 w.heap.size (fun _ => True) (.slice (some ⟨go43, 0, none⟩) x5_1.length co43) y957 := (by rw [hw, Ny957.out]; exact HP44.1); clear HP44; have n0_ := Aside0.mk (hp_); have n1_ := Aside0.mk ((by rw [hw]; exact below_set (HB.out) GB43.out : Below w.heap.size w w45)); clear HO_5; clear HB; have HO_5 := n0_; have HB := n1_; clear n0_ n1_; clear hg hw hp_))
           go_roundg k1
           case measure => have := HK1.out; omega
           case rel => exact ⟨(y957), (t956), (wrap64 (x22_1 + 1)), (by first | rfl | (simp; done) | (simp [*]; done)), (by first | rfl | (simp; done) | (simp [*]; done)), H', ⟨by have := HK1.out; omega⟩, ⟨by (with_reducible repeat (first | apply Kd.R_alloc | apply Kd.R_drewN | apply Kd.R_drew)); exact HO_5.out⟩, ⟨bw_ HB.out⟩⟩
          ·rw [if_neg c42] at H
           exact absurd H (by simp)
         ·rw [if_neg c40] at H
          exact absurd H (by simp)
        ·rw [if_neg c39] at H
         exact absurd H (by simp)
       ·rw [if_neg c38] at H
        have c38b0 : decide (x22_1 < (l1.length : Int)) = false := decide_eq_false c38
        clear c38
        by_cases c46 : 0 ≤ x22_1
        ·rw [if_pos c46] at H
         have c46b0 : decide (0 ≤ x22_1) = true := decide_eq_true c46
         clear c46
         by_cases c47 : x22_1 < (l0.length : Int)
         ·rw [if_pos c47] at H
          have c47b0 : decide (x22_1 < (l0.length : Int)) = true := decide_eq_true c47
          clear c47
          replace H := Option.bind_eq_some_iff.mp H
          obtain ⟨⟨t959, t960⟩, A480, H⟩ := H
          (try dsimp only at H)
          have A48 := Aside0.mk A480
          clear A480
          by_cases c49 : x22_1 < (x5_1.length : Int)
          ·rw [if_pos c49] at H
           have c49b0 : decide (x22_1 < (x5_1.length : Int)) = true := decide_eq_true c49
           clear c49
           obtain ⟨y961, hy961⟩ : ∃ y_ : List Int, y_ = (x5_1.set (x22_1 : Int).toNat t959) := ⟨_, rfl⟩
           replace H : (nat_Add.l1 k1 l0 l1 y961 t960 (l0.length : Int) (wrap64 (x22_1 + 1))) = some r := by first | (rw [hy961]; with_reducible exact H) | (have H2_ := (Option.bind_some _ _).symm.trans H; rw [hy961]; with_reducible exact H2_) | (have H2_ := (Option.bind_some _ _).symm.trans H; with_reducible exact H2_) | with_reducible exact H | (rw [hy961]; exact H) | exact H
           have Ny961 := Aside0.mk hy961
           clear hy961
           have H' := Aside0.mk H
           clear H
           have p958 : 0 ≤ (x22_1 : Int) := of_decide_eq_true (by first | (with_reducible assumption) | assumption)
           have q958 : x22_1 < (l0.length : Int) := of_decide_eq_true (by first | (with_reducible assumption) | assumption)
           obtain ⟨ad958, e958, hx958_0⟩ := Kd.at_int HR0.out x22_1 p958 q958
           cases e958
           replace hx958_0 := (HB.out.cell (World.block_lt_of_cell? w _ hx958_0)).trans hx958_0
           replace p958 := eq_true p958
           replace q958 := eq_true q958
           go_wp2_with (first | ((with_reducible refine gate_callee (f := 95) rfl ?_); refine gl_ (some 42) Tryd.func95 #[.int .u32 (rd l0 x22_1), .int .u32 0, .int .u32 x6_1] ?_; (with_reducible refine (bits_Add32.calls (rd l0 x22_1) 0 x6_1 t959 t960 _ A48.out).mono ?_); rintro e w' ⟨rfl, ⟨nd, rfl⟩⟩; refine ⟨_, rfl, ?_⟩; (try (rw [drewN_self wr]; generalize hq_ : World.drewN wr _ = wr; have n0_ : Aside0 (Kd.R (Kd.int .u32) 53 wr w.heap.size (fun _ => True) v951 x5_1) := ⟨by rw [← hq_]; exact (kr_ HO_5.out)⟩; have n1_ : Aside0 (Below w.heap.size w wr) := ⟨by rw [← hq_]; exact (bw_ HB.out)⟩; clear HO_5 HB hq_; have HO_5 := n0_; have HB := n1_; clear n0_ n1_)); have p50 : 0 ≤ (x22_1 : Int) := of_decide_eq_true (by first | (with_reducible assumption) | assumption); have q50 : (x22_1 : Int) < ((x5_1.length : Int) : Int) := of_decide_eq_true (by first | (with_reducible assumption) | assumption); obtain ⟨go50, co50, eo50, gb50, gl50, cl50, HG50⟩ := Kd.R_form HO_5.out (by omega); (first | cases eo50 | (injection eo50 with ea_ en_ ec_; (first | subst ea_ | (injection ea_ with ea_; subst ea_)); subst ec_; clear en_)); have GB50 := Aside0.mk gb50; have GG50 := Aside0.mk HG50; clear gb50 gl50 HG50; obtain ⟨hx50_0, hf50_0⟩ := Kd.R_celln 0 HO_5.out (x22_1 : Int) p50 q50; replace p50 := eq_true p50; replace q50 := eq_true q50; obtain ⟨hy51_, hz51_⟩ := Kd.R_celln 0 HO_5.out (x22_1 : Int) (of_decide_eq_true (by first | (with_reducible assumption) | assumption)) (of_decide_eq_true (by first | (with_reducible assumption) | assumption)); have HP51 := Kd.R_putg HO_5.out (x22_1 : Int) t959) | ((with_reducible refine gate_store (t := 53) (p := 45) rfl ?_); refine store_event (t := 53) (p := 45) (v := ?vo_w52) (w1 := (wr.setCell ⟨go50, (x22_1 : Int).toNat, none⟩ (.int .u32 t959))) ?hg ?ho ?hn ?hr ?_; (case ho => rfl); (case hg => rfl); (case hn => rfl); (case hr => first | (go_simp; done) | (go_simp; rfl)); intro w52 hw; have hg : wr.grownBy w52 (some go50) := (by rw [hw]; exact HP51.2); have hp_ : Kd.R (Kd.int .u32) 53 w52 w.heap.size (fun _ => True) (.slice (some ⟨go50, 0, none⟩) x5_1.length co50) y961 := (by rw [hw, Ny961.out]; exact HP51.1); clear HP51; have n0_ := Aside0.mk (hp_); have n1_ := Aside0.mk ((by rw [hw]; exact below_set (HB.out) GB50.out : Below w.heap.size w w52)); clear HO_5; clear HB; have HO_5 := n0_; have HB := n1_; clear n0_ n1_; clear hg hw hp_))
           go_roundg k1
           case measure => have := HK1.out; omega
           case rel => exact ⟨(y961), (t960), (wrap64 (x22_1 + 1)), (by first | rfl | (simp; done) | (simp [*]; done)), (by first | rfl | (simp; done) | (simp [*]; done)), H', ⟨by have := HK1.out; omega⟩, ⟨by (with_reducible repeat (first | apply Kd.R_alloc | apply Kd.R_drewN | apply Kd.R_drew)); exact HO_5.out⟩, ⟨bw_ HB.out⟩⟩
          ·rw [if_neg c49] at H
           exact absurd H (by simp)
         ·rw [if_neg c47] at H
          exact absurd H (by simp)
        ·rw [if_neg c46] at H
         exact absurd H (by simp)
      ·rw [if_neg c37] at H
       have c37b0 : decide (x22_1 < (l0.length : Int)) = false := decide_eq_false c37
       clear c37
       by_cases c53 : 0 ≤ (l0.length : Int)
       ·rw [if_pos c53] at H
        have c53b0 : decide (0 ≤ (l0.length : Int)) = true := decide_eq_true c53
        have c53b1 : decide (0 ≤ l0.length) = true := decide_eq_true (by omega)
        clear c53
        by_cases c54 : (l0.length : Int) < (x5_1.length : Int)
        ·rw [if_pos c54] at H
         have c54b0 : decide ((l0.length : Int) < (x5_1.length : Int)) = true := decide_eq_true c54
         have c54b1 : decide (l0.length < x5_1.length) = true := decide_eq_true (Int.ofNat_lt.mp c54)
         clear c54
         obtain ⟨y962, hy962⟩ : ∃ y_ : List Int, y_ = (x5_1.set ((l0.length : Int) : Int).toNat x6_1) := ⟨_, rfl⟩
         replace H : ((nat_cut_own.f k1 y962).bind fun t963 => (some t963)) = some r := by first | (rw [hy962]; with_reducible exact H) | (have H2_ := (Option.bind_some _ _).symm.trans H; rw [hy962]; with_reducible exact H2_) | (have H2_ := (Option.bind_some _ _).symm.trans H; with_reducible exact H2_) | with_reducible exact H | (rw [hy962]; exact H) | exact H
         have Ny962 := Aside0.mk hy962
         clear hy962
         replace H := Option.bind_eq_some_iff.mp H
         obtain ⟨t963, A560, H⟩ := H
         (try dsimp only at H)
         have A56 := Aside0.mk A560
         clear A560
         obtain rfl := Option.some.inj H
         have p55 : 0 ≤ ((l0.length : Int) : Int) := of_decide_eq_true (by first | (with_reducible assumption) | assumption)
         have q55 : ((l0.length : Int) : Int) < ((x5_1.length : Int) : Int) := of_decide_eq_true (by first | (with_reducible assumption) | assumption)
         obtain ⟨go55, co55, eo55, gb55, gl55, cl55, HG55⟩ := Kd.R_form HO_5.out (by omega)
         (first | cases eo55 | (injection eo55 with ea_ en_ ec_; (first | subst ea_ | (injection ea_ with ea_; subst ea_)); subst ec_; clear en_))
         have GB55 := Aside0.mk gb55
         have GG55 := Aside0.mk HG55
         clear gb55 gl55 HG55
         obtain ⟨hx55_0, hf55_0⟩ := Kd.R_celln 0 HO_5.out ((l0.length : Int) : Int) p55 q55
         (try simp only [Int.toNat_natCast] at hx55_0 hf55_0)
         replace p55 := eq_true p55
         replace q55 := eq_true q55
         have HP57 := Kd.R_putg HO_5.out ((l0.length : Int) : Int) x6_1
         go_wp2_with (first | ((with_reducible refine gate_store (t := 53) (p := 51) rfl ?_); refine store_event (t := 53) (p := 51) (v := ?vo_w58) (w1 := (wr.setCell ⟨go55, ((l0.length : Int) : Int).toNat, none⟩ (.int .u32 x6_1))) ?hg ?ho ?hn ?hr ?_; (case ho => rfl); (case hg => rfl); (case hn => rfl); (case hr => first | (go_simp; done) | (go_simp; rfl)); intro w58 hw; have hg : wr.grownBy w58 (some go55) := (by rw [hw]; exact HP57.2); have hp_ : Kd.R (Kd.int .u32) 53 w58 w.heap.size (fun _ => True) (.slice (some ⟨go55, 0, none⟩) x5_1.length co55) y962 := (by rw [hw, Ny962.out]; exact HP57.1); clear HP57; have n0_ := Aside0.mk (hp_); have n1_ := Aside0.mk ((by rw [hw]; exact below_set (HB.out) GB55.out : Below w.heap.size w w58)); clear HO_5; clear HB; have HO_5 := n0_; have HB := n1_; clear n0_ n1_; clear hg hw hp_) | ((with_reducible refine gate_callee (f := 66) rfl ?_); refine gl_ (some 53) Tryd.func66 #[.slice (some ⟨go55, 0, none⟩) x5_1.length co55] ?_; (with_reducible refine (nat_cut_own.calls k1 (fun k_ => some k_ = (.slice (some ⟨go55, 0, none⟩) x5_1.length co55 : Value).ownBlock) (.slice (some ⟨go55, 0, none⟩) x5_1.length co55) y962 t963 w _ ?side1 ?side2 A56.out).mono ?_); (case side1 => repeat (first | (with_reducible first | exact HB.out | apply below_alloc | apply pw_below_drewN | apply below_drew1) | exact HB.out)); (case side2 => exact Kd.R_tight rfl HO_5.out); rintro e w59 ⟨v964, rfl, ho0, hb, hkp⟩; refine ⟨_, rfl, ?_⟩; have HO965 := Aside0.mk (Kd.R_mono (ok' := fun k_ => True) ho0 (fun k_ hk_ => trivial)); replace HB := Aside0.mk (hb); clear HO_5; (try clear hb); (try clear hkp); (try clear ho0)))
         go_ret
         exact ⟨_, by first | rfl | (simp [errW_none, errW_some] <;> rfl) | (simp only [← hji32]; first | rfl | (simp [errW_none, errW_some] <;> rfl)) | (simp [*, errW_none, errW_some] <;> rfl), by (with_reducible repeat (first | apply Kd.R_alloc | apply Kd.R_drewN | apply Kd.R_drew)); exact HO965.out, bw_ HB.out⟩
        ·rw [if_neg c54] at H
         exact absurd H (by simp)
       ·rw [if_neg c53] at H
        exact absurd H (by simp)
   ·rw [if_neg c34] at H
    exact absurd H (by simp)
  ·rw [if_neg c33] at H
   exact absurd H (by simp)

/-! ### nat_Cmp: function 96 -/
set_option maxHeartbeats 8000000 in
set_option maxRecDepth 100000 in
theorem nat_Cmp.calls (k : Nat) (A0 : Option Addr) (c0 : Nat) (l0 : List Int) (A1 : Option Addr) (c1 : Nat) (l1 : List Int) (r : Int) (w : World) (hr0 : Kd.C (Kd.int .u32) w A0 l0.length l0) (hc0 : l0.length ≤ c0) (hr1 : Kd.C (Kd.int .u32) w A1 l1.length l1) (hc1 : l1.length ≤ c1) (h : nat_Cmp.f k l0 l1 = some r) :
  Calls Tryd.prog 96 #[.slice A0 l0.length c0, .slice A1 l1.length c1] w fun e w' => e = .returned (.int .i64 r) ∧ Below w.heap.size w w' := by
 have HR0 := Aside0.mk hr0
 have HC0 := Aside0.mk hc0
 clear hr0 hc0
 have HR1 := Aside0.mk hr1
 have HC1 := Aside0.mk hc1
 clear hr1 hc1
 have HB := Aside0.mk (Below.refl w.heap.size w)
 have H : ((nat_cut.f k l0).bind fun t966 => ((nat_cut.f k l1).bind fun t969 => (if (t966.length : Int) < (t969.length : Int) then (some (-1)) else (if (t966.length : Int) > (t969.length : Int) then (some 1) else (nat_Cmp.l0 k t966 t969 (t966.length : Int) 0))))) = some r := h
 clear h
 replace H := Option.bind_eq_some_iff.mp H
 obtain ⟨t966, A30, H⟩ := H
 (try dsimp only at H)
 have A3 := Aside0.mk A30
 clear A30
 replace H := Option.bind_eq_some_iff.mp H
 obtain ⟨t969, A40, H⟩ := H
 (try dsimp only at H)
 have A4 := Aside0.mk A40
 clear A40
 by_cases c5 : (t966.length : Int) < (t969.length : Int)
 ·rw [if_pos c5] at H
  have c5b0 : decide ((t966.length : Int) < (t969.length : Int)) = true := decide_eq_true c5
  have c5b1 : decide (t966.length < t969.length) = true := decide_eq_true (Int.ofNat_lt.mp c5)
  clear c5
  obtain rfl := Option.some.inj H
  go_enter Tryd.func96, Tryd.ntmps96
  iterate 3 (try go_wp2_with (first | (go_at_call 66; (with_reducible refine (nat_cut.calls k (fun k_ => k_ < w.heap.size) _ _ l0 t966 _ ?side1 A3.out).mono ?_); (case side1 => exact Kd.V_mk HC0.out (Kd.F_below (Kd.C_F (Kd.heap_int .u32) HR0.out) (bw_ HB.out))); rintro e w6 ⟨v967, rfl, ho0, hb⟩; have HO968 := Aside0.mk (Kd.V_lower (Kd.V_mono (ok' := fun k_ => True) ho0 (fun k_ hk_ => trivial)) (below_size (bw_ HB.out))); replace HB := bq_ HB hb; (try clear hb); (try clear hb2); (try clear hk); (try clear hi); (try clear ho0)) | (go_at_call 66; (with_reducible refine (nat_cut.calls k (fun k_ => k_ < w.heap.size) _ _ l1 t969 _ ?side1 A4.out).mono ?_); (case side1 => exact Kd.V_mk HC1.out (Kd.F_below (Kd.C_F (Kd.heap_int .u32) HR1.out) (bw_ HB.out))); rintro e w7 ⟨v970, rfl, ho0, hb⟩; have n0_ := Aside0.mk (Kd.V_below (by (with_reducible repeat (first | apply Kd.V_alloc | apply Kd.V_drewN | apply Kd.V_drew)); exact HO968.out) hb); have n1_ := Aside0.mk (Kd.V_lower (Kd.V_mono (ok' := fun k_ => True) ho0 (fun k_ hk_ => trivial)) (below_size (bw_ HB.out))); have n2_ := bq_ HB hb; clear HO968; clear HB; have HO968 := n0_; have HO971 := n1_; have HB := n2_; clear n0_ n1_ n2_; (try clear hb); (try clear hb2); (try clear hk); (try clear hi); (try clear ho0); obtain ⟨Ao8, co8, eo8⟩ := Kd.V_slice HO968.out; subst eo8; obtain ⟨Ao9, co9, eo9⟩ := Kd.V_slice HO971.out; subst eo9)); try (go_quiet (fail)))
  go_ret
  exact ⟨rf_, bw_ HB.out⟩
 ·rw [if_neg c5] at H
  have c5b0 : decide ((t966.length : Int) < (t969.length : Int)) = false := decide_eq_false c5
  have c5b1 : decide (t966.length < t969.length) = false := decide_eq_false (fun h => c5 (Int.ofNat_lt.mpr h))
  clear c5
  by_cases c10 : (t966.length : Int) > (t969.length : Int)
  ·rw [if_pos c10] at H
   have c10b0 : decide ((t969.length : Int) < (t966.length : Int)) = true := decide_eq_true c10
   have c10b1 : decide (t969.length < t966.length) = true := decide_eq_true (Int.ofNat_lt.mp c10)
   clear c10
   obtain rfl := Option.some.inj H
   go_enter Tryd.func96, Tryd.ntmps96
   iterate 3 (try go_wp2_with (first | (go_at_call 66; (with_reducible refine (nat_cut.calls k (fun k_ => k_ < w.heap.size) _ _ l0 t966 _ ?side1 A3.out).mono ?_); (case side1 => exact Kd.V_mk HC0.out (Kd.F_below (Kd.C_F (Kd.heap_int .u32) HR0.out) (bw_ HB.out))); rintro e w11 ⟨v967, rfl, ho0, hb⟩; have HO968 := Aside0.mk (Kd.V_lower (Kd.V_mono (ok' := fun k_ => True) ho0 (fun k_ hk_ => trivial)) (below_size (bw_ HB.out))); replace HB := bq_ HB hb; (try clear hb); (try clear hb2); (try clear hk); (try clear hi); (try clear ho0)) | (go_at_call 66; (with_reducible refine (nat_cut.calls k (fun k_ => k_ < w.heap.size) _ _ l1 t969 _ ?side1 A4.out).mono ?_); (case side1 => exact Kd.V_mk HC1.out (Kd.F_below (Kd.C_F (Kd.heap_int .u32) HR1.out) (bw_ HB.out))); rintro e w12 ⟨v970, rfl, ho0, hb⟩; have n0_ := Aside0.mk (Kd.V_below (by (with_reducible repeat (first | apply Kd.V_alloc | apply Kd.V_drewN | apply Kd.V_drew)); exact HO968.out) hb); have n1_ := Aside0.mk (Kd.V_lower (Kd.V_mono (ok' := fun k_ => True) ho0 (fun k_ hk_ => trivial)) (below_size (bw_ HB.out))); have n2_ := bq_ HB hb; clear HO968; clear HB; have HO968 := n0_; have HO971 := n1_; have HB := n2_; clear n0_ n1_ n2_; (try clear hb); (try clear hb2); (try clear hk); (try clear hi); (try clear ho0); obtain ⟨Ao13, co13, eo13⟩ := Kd.V_slice HO968.out; subst eo13; obtain ⟨Ao14, co14, eo14⟩ := Kd.V_slice HO971.out; subst eo14)); try (go_quiet (fail)))
   go_ret
   exact ⟨rf_, bw_ HB.out⟩
  ·rw [if_neg c10] at H
   have c10b0 : decide ((t969.length : Int) < (t966.length : Int)) = false := decide_eq_false c10
   have c10b1 : decide (t969.length < t966.length) = false := decide_eq_false (fun h => c10 (Int.ofNat_lt.mpr h))
   clear c10
   have H' := Aside0.mk H
   clear H
   go_enter Tryd.func96, Tryd.ntmps96
   iterate 3 (try go_wp2_with (first | (go_at_call 66; (with_reducible refine (nat_cut.calls k (fun k_ => k_ < w.heap.size) _ _ l0 t966 _ ?side1 A3.out).mono ?_); (case side1 => exact Kd.V_mk HC0.out (Kd.F_below (Kd.C_F (Kd.heap_int .u32) HR0.out) (bw_ HB.out))); rintro e w15 ⟨v967, rfl, ho0, hb⟩; have HO968 := Aside0.mk (Kd.V_lower (Kd.V_mono (ok' := fun k_ => True) ho0 (fun k_ hk_ => trivial)) (below_size (bw_ HB.out))); replace HB := bq_ HB hb; (try clear hb); (try clear hb2); (try clear hk); (try clear hi); (try clear ho0)) | (go_at_call 66; (with_reducible refine (nat_cut.calls k (fun k_ => k_ < w.heap.size) _ _ l1 t969 _ ?side1 A4.out).mono ?_); (case side1 => exact Kd.V_mk HC1.out (Kd.F_below (Kd.C_F (Kd.heap_int .u32) HR1.out) (bw_ HB.out))); rintro e w16 ⟨v970, rfl, ho0, hb⟩; have n0_ := Aside0.mk (Kd.V_below (by (with_reducible repeat (first | apply Kd.V_alloc | apply Kd.V_drewN | apply Kd.V_drew)); exact HO968.out) hb); have n1_ := Aside0.mk (Kd.V_lower (Kd.V_mono (ok' := fun k_ => True) ho0 (fun k_ hk_ => trivial)) (below_size (bw_ HB.out))); have n2_ := bq_ HB hb; clear HO968; clear HB; have HO968 := n0_; have HO971 := n1_; have HB := n2_; clear n0_ n1_ n2_; (try clear hb); (try clear hb2); (try clear hk); (try clear hi); (try clear ho0); obtain ⟨Ao17, co17, eo17⟩ := Kd.V_slice HO968.out; subst eo17; obtain ⟨Ao18, co18, eo18⟩ := Kd.V_slice HO971.out; subst eo18)); try (go_quiet (fail)))
   go_loopg [25] k (fun kq v25 w' => ∃ (x25_1 : Int), v25 = .int .i64 x25_1 ∧ Aside0 (nat_Cmp.l0 kq t966 t969 (t966.length : Int) x25_1 = some r) ∧ Aside0 (kq ≤ k) ∧ Aside0 (Kd.V (Kd.int .u32) 53 w' w.heap.size (fun _ => True) (.slice Ao17 t966.length co17) t966) ∧ Aside0 (Kd.V (Kd.int .u32) 53 w' w.heap.size (fun _ => True) (.slice Ao18 t969.length co18) t969) ∧ Aside0 (Below w.heap.size w w'))
   case atStart => exact ⟨(0), (by first | rfl | (simp; done) | (simp [*]; done)), H', ⟨Nat.le_refl _⟩, ⟨by (with_reducible repeat (first | apply Kd.V_alloc | apply Kd.V_drewN | apply Kd.V_drew)); exact HO968.out⟩, ⟨by (with_reducible repeat (first | apply Kd.V_alloc | apply Kd.V_drewN | apply Kd.V_drew)); exact HO971.out⟩, ⟨bw_ HB.out⟩⟩
   case round =>
    clear H'
    try clear c1
    try clear p2
    try clear c5
    try clear c5b0
    try clear c5b1
    try clear c9
    try clear c10
    try clear c10b0
    try clear c10b1
    obtain ⟨x25_1, rfl, HA, HK1, HO_0, HO_1, HB⟩ := hrel
    cases gk with
    | zero => exact absurd HA.out (by simp [nat_Cmp.l0])
    | succ k1 =>
     have H := HA.out
     clear HA
     simp only [nat_Cmp.l0] at H
     by_cases c19 : x25_1 < (t966.length : Int)
     ·rw [if_pos c19] at H
      have c19b0 : decide (x25_1 < (t966.length : Int)) = true := decide_eq_true c19
      clear c19
      obtain ⟨ji20, hji20⟩ : ∃ j_ : Int, (wrap64 ((wrap64 ((t966.length : Int) - 1)) - x25_1)) = j_ := ⟨_, rfl⟩
      (first | rw [hji20] at H | simp only [hji20] at H)
      have hji20w : (IntKind.i64.wrap ((wrap64 ((t966.length : Int) - 1)) - x25_1)) = ji20 := (i64_w _).trans hji20
      by_cases c21 : 0 ≤ (ji20)
      ·rw [if_pos c21] at H
       have c21b0 : decide (0 ≤ (ji20)) = true := decide_eq_true c21
       clear c21
       by_cases c22 : (ji20) < (t966.length : Int)
       ·rw [if_pos c22] at H
        have c22b0 : decide ((ji20) < (t966.length : Int)) = true := decide_eq_true c22
        clear c22
        by_cases c23 : (ji20) < (t969.length : Int)
        ·rw [if_pos c23] at H
         have c23b0 : decide ((ji20) < (t969.length : Int)) = true := decide_eq_true c23
         clear c23
         by_cases c24 : (rd t966 (ji20)) < (rd t969 (ji20))
         ·rw [if_pos c24] at H
          have c24b0 : decide ((rd t966 (ji20)) < (rd t969 (ji20))) = true := decide_eq_true c24
          clear c24
          obtain rfl := Option.some.inj H
          have p972 : 0 ≤ ((ji20) : Int) := of_decide_eq_true (by first | (with_reducible assumption) | assumption)
          have q972 : (ji20) < (t966.length : Int) := of_decide_eq_true (by first | (with_reducible assumption) | assumption)
          obtain ⟨ad972, e972, hx972_0⟩ := Kd.at_int (Kd.V_reads' HO_0.out).2.2 (ji20) p972 q972
          cases e972
          replace p972 := eq_true p972
          replace q972 := eq_true q972
          have p973 : 0 ≤ ((ji20) : Int) := of_decide_eq_true (by first | (with_reducible assumption) | assumption)
          have q973 : (ji20) < (t969.length : Int) := of_decide_eq_true (by first | (with_reducible assumption) | assumption)
          obtain ⟨ad973, e973, hx973_0⟩ := Kd.at_int (Kd.V_reads' HO_1.out).2.2 (ji20) p973 q973
          cases e973
          replace p973 := eq_true p973
          replace q973 := eq_true q973
          go_wp2
          repeat (go_quiet (fail); try go_wp2)
          go_ret
          exact ⟨by first | rfl | (simp [errW_none, errW_some] <;> rfl) | (simp only [← hji20]; first | rfl | (simp [errW_none, errW_some] <;> rfl)) | (simp [*, errW_none, errW_some] <;> rfl), bw_ HB.out⟩
         ·rw [if_neg c24] at H
          have c24b0 : decide ((rd t966 (ji20)) < (rd t969 (ji20))) = false := decide_eq_false c24
          clear c24
          by_cases c25 : (rd t966 (ji20)) > (rd t969 (ji20))
          ·rw [if_pos c25] at H
           have c25b0 : decide ((rd t969 (ji20)) < (rd t966 (ji20))) = true := decide_eq_true c25
           clear c25
           obtain rfl := Option.some.inj H
           have p972 : 0 ≤ ((ji20) : Int) := of_decide_eq_true (by first | (with_reducible assumption) | assumption)
           have q972 : (ji20) < (t966.length : Int) := of_decide_eq_true (by first | (with_reducible assumption) | assumption)
           obtain ⟨ad972, e972, hx972_0⟩ := Kd.at_int (Kd.V_reads' HO_0.out).2.2 (ji20) p972 q972
           cases e972
           replace p972 := eq_true p972
           replace q972 := eq_true q972
           have p973 : 0 ≤ ((ji20) : Int) := of_decide_eq_true (by first | (with_reducible assumption) | assumption)
           have q973 : (ji20) < (t969.length : Int) := of_decide_eq_true (by first | (with_reducible assumption) | assumption)
           obtain ⟨ad973, e973, hx973_0⟩ := Kd.at_int (Kd.V_reads' HO_1.out).2.2 (ji20) p973 q973
           cases e973
           replace p973 := eq_true p973
           replace q973 := eq_true q973
           have p974 : 0 ≤ ((ji20) : Int) := of_decide_eq_true (by first | (with_reducible assumption) | assumption)
           have q974 : (ji20) < (t966.length : Int) := of_decide_eq_true (by first | (with_reducible assumption) | assumption)
           obtain ⟨ad974, e974, hx974_0⟩ := Kd.at_int (Kd.V_reads' HO_0.out).2.2 (ji20) p974 q974
           obtain rfl : ad972 = ad974 := (by injection e974)
           replace p974 := eq_true p974
           replace q974 := eq_true q974
           have p975 : 0 ≤ ((ji20) : Int) := of_decide_eq_true (by first | (with_reducible assumption) | assumption)
           have q975 : (ji20) < (t969.length : Int) := of_decide_eq_true (by first | (with_reducible assumption) | assumption)
           obtain ⟨ad975, e975, hx975_0⟩ := Kd.at_int (Kd.V_reads' HO_1.out).2.2 (ji20) p975 q975
           obtain rfl : ad973 = ad975 := (by injection e975)
           replace p975 := eq_true p975
           replace q975 := eq_true q975
           go_wp2
           repeat (go_quiet (fail); try go_wp2)
           go_ret
           exact ⟨by first | rfl | (simp [errW_none, errW_some] <;> rfl) | (simp only [← hji20]; first | rfl | (simp [errW_none, errW_some] <;> rfl)) | (simp [*, errW_none, errW_some] <;> rfl), bw_ HB.out⟩
          ·rw [if_neg c25] at H
           have c25b0 : decide ((rd t969 (ji20)) < (rd t966 (ji20))) = false := decide_eq_false c25
           clear c25
           have H' := Aside0.mk H
           clear H
           have p972 : 0 ≤ ((ji20) : Int) := of_decide_eq_true (by first | (with_reducible assumption) | assumption)
           have q972 : (ji20) < (t966.length : Int) := of_decide_eq_true (by first | (with_reducible assumption) | assumption)
           obtain ⟨ad972, e972, hx972_0⟩ := Kd.at_int (Kd.V_reads' HO_0.out).2.2 (ji20) p972 q972
           cases e972
           replace p972 := eq_true p972
           replace q972 := eq_true q972
           have p973 : 0 ≤ ((ji20) : Int) := of_decide_eq_true (by first | (with_reducible assumption) | assumption)
           have q973 : (ji20) < (t969.length : Int) := of_decide_eq_true (by first | (with_reducible assumption) | assumption)
           obtain ⟨ad973, e973, hx973_0⟩ := Kd.at_int (Kd.V_reads' HO_1.out).2.2 (ji20) p973 q973
           cases e973
           replace p973 := eq_true p973
           replace q973 := eq_true q973
           have p974 : 0 ≤ ((ji20) : Int) := of_decide_eq_true (by first | (with_reducible assumption) | assumption)
           have q974 : (ji20) < (t966.length : Int) := of_decide_eq_true (by first | (with_reducible assumption) | assumption)
           obtain ⟨ad974, e974, hx974_0⟩ := Kd.at_int (Kd.V_reads' HO_0.out).2.2 (ji20) p974 q974
           obtain rfl : ad972 = ad974 := (by injection e974)
           replace p974 := eq_true p974
           replace q974 := eq_true q974
           have p975 : 0 ≤ ((ji20) : Int) := of_decide_eq_true (by first | (with_reducible assumption) | assumption)
           have q975 : (ji20) < (t969.length : Int) := of_decide_eq_true (by first | (with_reducible assumption) | assumption)
           obtain ⟨ad975, e975, hx975_0⟩ := Kd.at_int (Kd.V_reads' HO_1.out).2.2 (ji20) p975 q975
           obtain rfl : ad973 = ad975 := (by injection e975)
           replace p975 := eq_true p975
           replace q975 := eq_true q975
           go_wp2
           repeat (go_quiet (fail); try go_wp2)
           go_roundg k1
           case measure => have := HK1.out; omega
           case rel => exact ⟨(wrap64 (x25_1 + 1)), (by first | rfl | (simp; done) | (simp [*]; done)), H', ⟨by have := HK1.out; omega⟩, ⟨by (with_reducible repeat (first | apply Kd.V_alloc | apply Kd.V_drewN | apply Kd.V_drew)); exact HO_0.out⟩, ⟨by (with_reducible repeat (first | apply Kd.V_alloc | apply Kd.V_drewN | apply Kd.V_drew)); exact HO_1.out⟩, ⟨bw_ HB.out⟩⟩
        ·rw [if_neg c23] at H
         exact absurd H (by simp)
       ·rw [if_neg c22] at H
        exact absurd H (by simp)
      ·rw [if_neg c21] at H
       exact absurd H (by simp)
     ·rw [if_neg c19] at H
      have c19b0 : decide (x25_1 < (t966.length : Int)) = false := decide_eq_false c19
      clear c19
      obtain rfl := Option.some.inj H
      go_wp2
      repeat (go_quiet (fail); try go_wp2)
      go_ret
      exact ⟨rf_, bw_ HB.out⟩

/-! ### bits_Sub32: function 97 -/
set_option maxHeartbeats 8000000 in
set_option maxRecDepth 100000 in
theorem bits_Sub32.calls (a0 : Int) (a1 : Int) (a2 : Int) (r1 : Int) (r2 : Int) (w : World) (h : bits_Sub32.f a0 a1 a2 = some (r1, r2)) :
  Calls Tryd.prog 97 #[.int .u32 a0, .int .u32 a1, .int .u32 a2] w fun e w' => e = .returned (.tuple #[.int .u32 r1, .int .u32 r2]) ∧ Drawn0 w w' := by
 have H : (some ((((a0 - a1) % 4294967296) - a2) % 4294967296, (Go.bits .or .u32 (Go.bits .and .u32 (Go.bits .xor .u32 4294967295 a0) a1) (Go.bits .and .u32 (Go.bits .xor .u32 4294967295 (Go.bits .xor .u32 a0 a1)) ((((a0 - a1) % 4294967296) - a2) % 4294967296))) / 2147483648)) = some (r1, r2) := h
 clear h
 simp only [Option.some.injEq, Prod.mk.injEq] at H
 obtain ⟨rfl, rfl⟩ := H
 go_enter Tryd.func97, Tryd.ntmps97
 go_wp2
 go_ret2
 exact ⟨by first | rfl | (simp; done) | (simp [*]; done), by repeat (first | exact Drawn0.refl _ | apply Drawn0.step)⟩

end Go.Proofs.YtkemnoejpbknhaaDoor.PA
