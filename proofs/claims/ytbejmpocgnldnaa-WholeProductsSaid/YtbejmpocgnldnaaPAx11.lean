-- Laid by this work's own program; Lean checks it.
import Derived.Test.YtbejmpocgnldnaaPAx0
import Derived.Test.YtbejmpocgnldnaaPAx1
import Derived.Test.YtbejmpocgnldnaaPAx9
namespace Go.Proofs.Ytbejmpocgnldnaa.PA
open Go.RowKit Go.Proofs.YtbejmpocgnldnaaW.PrintWords Go.Proofs.YtbejmpocgnldnaaW.PrintLast Go.Proofs.YtbejmpocgnldnaaW.PrintMore
attribute [local go_sem] max2_int min2_int max_two min_two max_three min_three max_four min_four   -- for this text's walks alone
set_option linter.unusedVariables false
set_option linter.unusedSimpArgs false

attribute [local go_sem ↓ high] isSome_set_
/-! ### peloruslaw02_Few: function 10 -/
set_option maxHeartbeats 8000000 in
set_option maxRecDepth 100000 in
theorem peloruslaw02_Few.calls (a0_0 : Bool) (A0_1 : Option Addr) (c0_1 : Nat) (l0_1 : List Int) (r : Bool) (w : World) (hr0_1 : Kd.C (Kd.int .u32) w A0_1 l0_1.length l0_1) (hc0_1 : l0_1.length ≤ c0_1) (h : peloruslaw02_Few.f a0_0 l0_1 = some r) :
  Calls Try.prog 10 #[.agg #[.bool a0_0, .slice A0_1 l0_1.length c0_1]] w fun e w' => e = .returned (.bool r) ∧ Below w.heap.size w w' := by
 have hu24 := Try.underlying24
 have HR0_1 := Aside0.mk hr0_1
 have HC0_1 := Aside0.mk hc0_1
 clear hr0_1 hc0_1
 have HB := Aside0.mk (Below.refl w.heap.size w)
 have H : (some (decide ((l0_1.length : Int) ≤ 40))) = some r := h
 clear h
 obtain rfl := Option.some.inj H
 go_enter Try.func10, Try.ntmps10
 go_wp2_with (first | ((with_reducible refine gate_dst (N := 1) rfl ?_); refine bx_ 1 #[.bool a0_0, .slice A0_1 l0_1.length c0_1] 24 ?_; intro gb539 hg w2 hbox hb; have BK539 := Aside0.mk (hbox); have GW539 := ge_ hg HB; have GE539 := ge_ hg HB; replace HB := bq_ HB hb; clear hb hbox hg; obtain ⟨hcz3_0, hcz3_1, hfz3_0, hfz3_1⟩ := c2_ BK539))
 go_ret
 exact ⟨rf_, bw_ HB.out⟩

/-! ### pelorusref01_at: function 64 -/
set_option maxHeartbeats 8000000 in
set_option maxRecDepth 100000 in
theorem pelorusref01_at.calls (A0 : Option Addr) (c0 : Nat) (l0 : List Int) (a1 : Int) (r : Int) (w : World) (hr0 : Kd.C (Kd.int .u32) w A0 l0.length l0) (hc0 : l0.length ≤ c0) (h : pelorusref01_at.f l0 a1 = some r) :
  Calls Try.prog 64 #[.slice A0 l0.length c0, .int .i64 a1] w fun e w' => e = .returned (.int .u64 r) ∧ Drawn0 w w' := by
 have HR0 := Aside0.mk hr0
 have HC0 := Aside0.mk hc0
 clear hr0 hc0
 have H : (if a1 ≥ (l0.length : Int) then (some 0) else (if 0 ≤ a1 then (if a1 < (l0.length : Int) then (some (IntKind.u64.wrap (rd l0 a1))) else (none)) else (none))) = some r := h
 clear h
 by_cases c3 : a1 ≥ (l0.length : Int)
 ·rw [if_pos c3] at H
  have c3b0 : decide ((l0.length : Int) ≤ a1) = true := decide_eq_true c3
  clear c3
  obtain rfl := Option.some.inj H
  go_enter Try.func64, Try.ntmps64
  go_wp2
  go_ret
  exact ⟨by first | rfl | (simp; done) | (simp [*]; done), by repeat (first | exact Drawn0.refl _ | apply Drawn0.step)⟩
 ·rw [if_neg c3] at H
  have c3b0 : decide ((l0.length : Int) ≤ a1) = false := decide_eq_false c3
  clear c3
  by_cases c4 : 0 ≤ a1
  ·rw [if_pos c4] at H
   have c4b0 : decide (0 ≤ a1) = true := decide_eq_true c4
   clear c4
   by_cases c5 : a1 < (l0.length : Int)
   ·rw [if_pos c5] at H
    have c5b0 : decide (a1 < (l0.length : Int)) = true := decide_eq_true c5
    clear c5
    obtain rfl := Option.some.inj H
    have p565 : 0 ≤ (a1 : Int) := of_decide_eq_true (by first | (with_reducible assumption) | assumption)
    have q565 : a1 < (l0.length : Int) := of_decide_eq_true (by first | (with_reducible assumption) | assumption)
    obtain ⟨ad565, e565, hx565_0⟩ := Kd.at_int HR0.out a1 p565 q565
    cases e565
    replace p565 := eq_true p565
    replace q565 := eq_true q565
    go_enter Try.func64, Try.ntmps64
    go_wp2
    go_ret
    exact ⟨by first | rfl | (simp; done) | (simp [*]; done), by repeat (first | exact Drawn0.refl _ | apply Drawn0.step)⟩
   ·rw [if_neg c5] at H
    exact absurd H (by simp)
  ·rw [if_neg c4] at H
   exact absurd H (by simp)

/-! ### pelorusref01_Add: function 46 -/
set_option maxHeartbeats 8000000 in
set_option maxRecDepth 100000 in
theorem pelorusref01_Add.calls (k : Nat) (A0 : Option Addr) (c0 : Nat) (l0 : List Int) (A1 : Option Addr) (c1 : Nat) (l1 : List Int) (r : List Int) (w : World) (hr0 : Kd.C (Kd.int .u32) w A0 l0.length l0) (hc0 : l0.length ≤ c0) (hr1 : Kd.C (Kd.int .u32) w A1 l1.length l1) (hc1 : l1.length ≤ c1) (h : pelorusref01_Add.f k l0 l1 = some r) :
  Calls Try.prog 46 #[.slice A0 l0.length c0, .slice A1 l1.length c1] w fun e w' => ∃ v0_ : Value, e = .returned (v0_) ∧ Kd.R (Kd.int .u32) 47 w' w.heap.size (fun _ => True) v0_ r ∧ Below w.heap.size w w' := by
 have HR0 := Aside0.mk hr0
 have HC0 := Aside0.mk hc0
 clear hr0 hc0
 have HR1 := Aside0.mk hr1
 have HC1 := Aside0.mk hc1
 clear hr1 hc1
 have HB := Aside0.mk (Below.refl w.heap.size w)
 have H : (pelorusref01_Add.l0 k l0 l1 ([] : List Int) 0 0) = some r := h
 clear h
 have H' := Aside0.mk H
 clear H
 go_enter Try.func46, Try.ntmps46
 go_wp2
 go_loopg [5, 6, 7] k (fun kq v5 v6 v7 w' => ∃ (x5_1 : List Int) (x6_1 : Int) (x7_1 : Int), v6 = .int .u64 x6_1 ∧ v7 = .int .i64 x7_1 ∧ Aside0 (pelorusref01_Add.l0 kq l0 l1 x5_1 x6_1 x7_1 = some r) ∧ Aside0 (kq ≤ k) ∧ Aside0 (Kd.R (Kd.int .u32) 47 w' w.heap.size (fun _ => True) v5 x5_1) ∧ Aside0 (Below w.heap.size w w'))
 case atStart => exact ⟨(([] : List Int)), (0), (0), (by first | rfl | (simp; done) | (simp [*]; done)), (by first | rfl | (simp; done) | (simp [*]; done)), H', ⟨Nat.le_refl _⟩, ⟨by first | exact Kd.R_nil _ _ _ _ _ | exact Kd.N_nil _ _ _ _ _ | exact Kd.V_nil _ _ _ _ _ | exact Kd.Q_nil _ _ _ _ _ | exact Kd.S_nil _ _ _ _ _⟩, ⟨bw_ HB.out⟩⟩
 case round =>
  clear H'
  try clear c1
  try clear p2
  obtain ⟨x5_1, x6_1, x7_1, rfl, rfl, HA, HK1, HO_5, HB⟩ := hrel
  cases gk with
  | zero => exact absurd HA.out (by simp [pelorusref01_Add.l0])
  | succ k1 =>
   have H := HA.out
   clear HA
   simp only [pelorusref01_Add.l0] at H
   have HC3 := Aside0.mk H
   clear H
   go_upto_region 4 with (fail)
   go_cut [22] (fun v22 wc => ∃ (kq : Nat) (x22_2 : Bool), v22 = .bool x22_2 ∧ Aside0 (pelorusref01_Add.j1 kq l0 l1 x5_1 x6_1 x7_1 x22_2 = some r) ∧ Aside0 (kq ≤ k1) ∧ Aside0 (Kd.R (Kd.int .u32) 47 wc w.heap.size (fun _ => True) u5 x5_1) ∧ Aside0 (Below w.heap.size w wc))
   case first =>
    have H := HC3.out
    clear HC3
    by_cases c4 : x7_1 < (l0.length : Int)
    ·rw [if_pos c4] at H
     have c4b0 : decide (x7_1 < (l0.length : Int)) = true := decide_eq_true c4
     clear c4
     (first | rw [c4b0] | (simp only [i64_w, i32_w]; rw [c4b0]) | skip)
     have H' := Aside0.mk H
     clear H
     go_wp2
     go_meet
     case rel => exact ⟨_, (true), (by first | rfl | (simp; done) | (simp [*]; done)), H', ⟨by have := HK1.out; first | omega | exact Nat.le_refl _⟩, ⟨by (with_reducible repeat (first | apply Kd.R_alloc | apply Kd.R_drewN | apply Kd.R_drew)); exact HO_5.out⟩, ⟨bw_ HB.out⟩⟩
    ·rw [if_neg c4] at H
     have c4b0 : decide (x7_1 < (l0.length : Int)) = false := decide_eq_false c4
     clear c4
     (first | rw [c4b0] | (simp only [i64_w, i32_w]; rw [c4b0]) | skip)
     by_cases c5 : x7_1 < (l1.length : Int)
     ·rw [if_pos c5] at H
      have c5b0 : decide (x7_1 < (l1.length : Int)) = true := decide_eq_true c5
      clear c5
      have H' := Aside0.mk H
      clear H
      go_wp2
      go_meet
      case rel => exact ⟨_, (true), (by first | rfl | (simp; done) | (simp [*]; done)), H', ⟨by have := HK1.out; first | omega | exact Nat.le_refl _⟩, ⟨by (with_reducible repeat (first | apply Kd.R_alloc | apply Kd.R_drewN | apply Kd.R_drew)); exact HO_5.out⟩, ⟨bw_ HB.out⟩⟩
     ·rw [if_neg c5] at H
      have c5b0 : decide (x7_1 < (l1.length : Int)) = false := decide_eq_false c5
      clear c5
      have H' := Aside0.mk H
      clear H
      go_wp2
      go_meet
      case rel => exact ⟨_, (decide (x6_1 > 0)), (by first | rfl | (simp; done) | (simp [*]; done)), H', ⟨by have := HK1.out; first | omega | exact Nat.le_refl _⟩, ⟨by (with_reducible repeat (first | apply Kd.R_alloc | apply Kd.R_drewN | apply Kd.R_drew)); exact HO_5.out⟩, ⟨bw_ HB.out⟩⟩
   case rest =>
    clear HC3
    try clear c1
    try clear p2
    try clear c4
    try clear c4b0
    try clear c5
    try clear c5b0
    try clear p2
    obtain ⟨kq, x22_2, rfl, HA, HJ2, HO_5, HB⟩ := hcut
    cases kq with
    | zero => exact absurd HA.out (by simp [pelorusref01_Add.j1])
    | succ kj2 =>
     have H := HA.out
     clear HA
     simp only [pelorusref01_Add.j1] at H
     by_cases c6 : x22_2 = true
     ·subst c6
      have H1 : ((pelorusref01_at.f l0 x7_1).bind fun t566 => ((pelorusref01_at.f l1 x7_1).bind fun t567 => (if x5_1.length < 35184372088832 then (pelorusref01_Add.l0 kj2 l0 l1 (x5_1 ++ [(Int.tmod (IntKind.u64.wrap ((IntKind.u64.wrap (t566 + t567)) + x6_1)) 4294967296) % 4294967296]) (IntKind.u64.wrap (Int.tdiv (IntKind.u64.wrap ((IntKind.u64.wrap (t566 + t567)) + x6_1)) 4294967296)) (wrap64 (x7_1 + 1))) else (none)))) = some r := by rw [if_pos rfl] at H; exact H
      clear H
      have H := H1
      clear H1
      replace H := Option.bind_eq_some_iff.mp H
      obtain ⟨t566, A70, H⟩ := H
      (try dsimp only at H)
      have A7 := Aside0.mk A70
      clear A70
      replace H := Option.bind_eq_some_iff.mp H
      obtain ⟨t567, A80, H⟩ := H
      (try dsimp only at H)
      have A8 := Aside0.mk A80
      clear A80
      by_cases c9 : x5_1.length < 35184372088832
      ·rw [if_pos c9] at H
       have LMc9 := Aside0.mk c9
       clear c9
       obtain ⟨y568, hy568⟩ : ∃ y_ : List Int, y_ = (x5_1 ++ [(Int.tmod (IntKind.u64.wrap ((IntKind.u64.wrap (t566 + t567)) + x6_1)) 4294967296) % 4294967296]) := ⟨_, rfl⟩
       replace H : (pelorusref01_Add.l0 kj2 l0 l1 y568 (IntKind.u64.wrap (Int.tdiv (IntKind.u64.wrap ((IntKind.u64.wrap (t566 + t567)) + x6_1)) 4294967296)) (wrap64 (x7_1 + 1))) = some r := by first | (rw [hy568]; with_reducible exact H) | (have H2_ := (Option.bind_some _ _).symm.trans H; rw [hy568]; with_reducible exact H2_) | (have H2_ := (Option.bind_some _ _).symm.trans H; with_reducible exact H2_) | with_reducible exact H | (rw [hy568]; exact H) | exact H
       have Ny568 := Aside0.mk hy568
       clear hy568
       have H' := Aside0.mk H
       clear H
       go_wp2_with (first | ((with_reducible refine gate_callee (f := 64) rfl ?_); refine gl_ (some 27) Try.func64 #[.slice A0 l0.length c0, .int .i64 x7_1] ?_; (with_reducible refine (pelorusref01_at.calls _ _ l0 x7_1 t566 _ ?side1 ?side2 A7.out).mono ?_); (case side1 => exact kc_ (Kd.C_below HR0.out HB.out)); (case side2 => exact HC0.out); rintro e w' ⟨rfl, ⟨nd, rfl⟩⟩; refine ⟨_, rfl, ?_⟩) | ((with_reducible refine gate_callee (f := 64) rfl ?_); refine gl_ (some 30) Try.func64 #[.slice A1 l1.length c1, .int .i64 x7_1] ?_; (with_reducible refine (pelorusref01_at.calls _ _ l1 x7_1 t567 _ ?side1 ?side2 A8.out).mono ?_); (case side1 => exact kc_ (Kd.C_below HR1.out (bw_ HB.out))); (case side2 => exact HC1.out); rintro e w' ⟨rfl, ⟨nd, rfl⟩⟩; refine ⟨_, rfl, ?_⟩) | ((with_reducible refine gate_builtin (b := .append) (xs := #[.tmp 34, .tmp 38]) rfl ?_); (try (refine gate_guard (by rfl) ?_; dsimp only)); at_builtin; refine Kd.R_append (Kd.int .u32) (w0 := w) w.heap.size rfl (.tmp 34) (.tmp 38) 22 47 (.int .u32 0) 4 rfl Try.underlying22 info47 rfl (by decide) (by omega) u5 x5_1 ((Int.tmod (IntKind.u64.wrap ((IntKind.u64.wrap (t566 + t567)) + x6_1)) 4294967296) % 4294967296) [.int .u32 ((Int.tmod (IntKind.u64.wrap ((IntKind.u64.wrap (t566 + t567)) + x6_1)) 4294967296) % 4294967296)] (fun _ => True) (fun _ => False) rfl rfl ?aP (fun _ hk => hk.elim) ?aF ?aO ?aB ?aS ?aL ?_; (case aP => exact rfl); (case aB => exact (bw_ HB.out)); (case aF => exact (fun _ _ => trivial)); (case aO => exact (kr_ HO_5.out)); (case aS => exact (below_size (bw_ HB.out))); (case aL => have := LMc9.out; omega); intro v569 w10 ho hb hg hat; rw [← Ny568.out] at ho; have HO570 := Aside0.mk (ho); replace HB := Aside0.mk (hb); clear HO_5; clear ho hb hg hat))
       go_roundg kj2
       case measure => have := HK1.out; have := HJ2.out; omega
       case rel => exact ⟨(y568), (IntKind.u64.wrap (Int.tdiv (IntKind.u64.wrap ((IntKind.u64.wrap (t566 + t567)) + x6_1)) 4294967296)), (wrap64 (x7_1 + 1)), (by first | rfl | (simp; done) | (simp [*]; done)), (by first | rfl | (simp; done) | (simp [*]; done)), H', ⟨by have := HK1.out; have := HJ2.out; omega⟩, ⟨by (with_reducible repeat (first | apply Kd.R_alloc | apply Kd.R_drewN | apply Kd.R_drew)); exact HO570.out⟩, ⟨bw_ HB.out⟩⟩
      ·rw [if_neg c9] at H
       exact absurd H (by simp)
     ·replace c6 := Bool.eq_false_iff.mpr c6
      subst c6
      have H1 : ((pelorusref01_Trim.f kj2 x5_1).bind fun t571 => (some t571)) = some r := by rw [if_neg (show ¬ (false = true) by decide)] at H; exact H
      clear H
      have H := H1
      clear H1
      replace H := Option.bind_eq_some_iff.mp H
      obtain ⟨t571, A110, H⟩ := H
      (try dsimp only at H)
      have A11 := Aside0.mk A110
      clear A110
      obtain rfl := Option.some.inj H
      obtain ⟨Ao12, co12, eo12⟩ := Kd.R_slice HO_5.out
      subst eo12
      go_wp2_with (first | ((with_reducible refine gate_callee (f := 41) rfl ?_); refine gl_ (some 43) Try.func41 #[.slice Ao12 x5_1.length co12] ?_; (with_reducible refine (pelorusref01_Trim.calls kj2 _ _ x5_1 t571 _ ?side1 ?side2 A11.out).mono ?_); (case side1 => exact kc_ (Kd.R_reads' HO_5.out).2.2); (case side2 => exact (Kd.R_reads' HO_5.out).2.1); rintro e w13 ⟨v572, rfl, ho0, hb⟩; refine ⟨_, rfl, ?_⟩; have HO573 := Aside0.mk (Kd.R_lower (Kd.R_new' ho0 (Kd.R_lt (kr_ HO_5.out))) (below_size (bw_ HB.out))); replace HO_5 := Aside0.mk (Kd.R_elder' (kr_ HO_5.out) (Kd.R_base ho0) hb); replace HB := bq_ HB hb; (try clear hb); (try clear hb2); (try clear hk); (try clear hi); (try clear ho0)))
      go_ret
      exact ⟨_, rf_, by (with_reducible repeat (first | apply Kd.R_alloc | apply Kd.R_drewN | apply Kd.R_drew)); exact Kd.R_mono HO573.out (fun _ hk => trivial), bw_ HB.out⟩

/-! ### pelorusref01_Cmp: function 65 -/
set_option maxHeartbeats 8000000 in
set_option maxRecDepth 100000 in
theorem pelorusref01_Cmp.calls (k : Nat) (A0 : Option Addr) (c0 : Nat) (l0 : List Int) (A1 : Option Addr) (c1 : Nat) (l1 : List Int) (r : Int) (w : World) (hr0 : Kd.C (Kd.int .u32) w A0 l0.length l0) (hc0 : l0.length ≤ c0) (hr1 : Kd.C (Kd.int .u32) w A1 l1.length l1) (hc1 : l1.length ≤ c1) (h : pelorusref01_Cmp.f k l0 l1 = some r) :
  Calls Try.prog 65 #[.slice A0 l0.length c0, .slice A1 l1.length c1] w fun e w' => e = .returned (.int .i64 r) ∧ Below w.heap.size w w' := by
 have HR0 := Aside0.mk hr0
 have HC0 := Aside0.mk hc0
 clear hr0 hc0
 have HR1 := Aside0.mk hr1
 have HC1 := Aside0.mk hc1
 clear hr1 hc1
 have HB := Aside0.mk (Below.refl w.heap.size w)
 have H : ((pelorusref01_Trim.f k l0).bind fun t574 => ((pelorusref01_Trim.f k l1).bind fun t577 => (if (t574.length : Int) = (t577.length : Int) then (pelorusref01_Cmp.l0 k t574 t577 (wrap64 ((t574.length : Int) - 1))) else (if (t574.length : Int) < (t577.length : Int) then (some (-1)) else (some 1))))) = some r := h
 clear h
 replace H := Option.bind_eq_some_iff.mp H
 obtain ⟨t574, A30, H⟩ := H
 (try dsimp only at H)
 have A3 := Aside0.mk A30
 clear A30
 replace H := Option.bind_eq_some_iff.mp H
 obtain ⟨t577, A40, H⟩ := H
 (try dsimp only at H)
 have A4 := Aside0.mk A40
 clear A40
 by_cases c5 : (t574.length : Int) = (t577.length : Int)
 ·rw [if_pos c5] at H
  have c5b0 : ((t574.length : Int) == (t577.length : Int)) = true := beq_iff_eq.mpr c5
  have c5b1 : ((t574.length : Int) != (t577.length : Int)) = false := bne_eq_false_iff_eq.mpr c5
  have c5b2 : (t574.length == t577.length) = true := by first | simpa using c5 | (simp at c5 ⊢; omega)
  clear c5
  have H' := Aside0.mk H
  clear H
  go_enter Try.func65, Try.ntmps65
  iterate 3 (try go_wp2_with (first | (go_at_call 41; (with_reducible refine (pelorusref01_Trim.calls k _ _ l0 t574 _ ?side1 ?side2 A3.out).mono ?_); (case side1 => exact kc_ HR0.out); (case side2 => exact HC0.out); rintro e w6 ⟨v575, rfl, ho0, hb⟩; have HO576 := Aside0.mk (Kd.R_lower ho0 (below_size (bw_ HB.out))); replace HB := bq_ HB hb; (try clear hb); (try clear hb2); (try clear hk); (try clear hi); (try clear ho0)) | (go_at_call 41; (with_reducible refine (pelorusref01_Trim.calls k _ _ l1 t577 _ ?side1 ?side2 A4.out).mono ?_); (case side1 => exact kc_ (Kd.C_below HR1.out HB.out)); (case side2 => exact HC1.out); rintro e w7 ⟨v578, rfl, ho0, hb⟩; have HO579 := Aside0.mk (Kd.R_lower (Kd.R_new' ho0 (Kd.R_lt (kr_ HO576.out))) (below_size (bw_ HB.out))); replace HO576 := Aside0.mk (Kd.R_elder' (kr_ HO576.out) (Kd.R_base ho0) hb); replace HB := bq_ HB hb; (try clear hb); (try clear hb2); (try clear hk); (try clear hi); (try clear ho0); obtain ⟨Ao8, co8, eo8⟩ := Kd.R_slice HO576.out; subst eo8; obtain ⟨Ao9, co9, eo9⟩ := Kd.R_slice HO579.out; subst eo9)); try (go_quiet (fail)))
  go_loopg [7] k (fun kq v7 w' => ∃ (x7_1 : Int), v7 = .int .i64 x7_1 ∧ Aside0 (pelorusref01_Cmp.l0 kq t574 t577 x7_1 = some r) ∧ Aside0 (kq ≤ k) ∧ Aside0 (Kd.R (Kd.int .u32) 47 w' w.heap.size (fun k_ => some k_ ≠ ((.slice Ao9 t577.length co9) : Value).ownBlock) (.slice Ao8 t574.length co8) t574) ∧ Aside0 (Kd.R (Kd.int .u32) 47 w' w.heap.size (fun k_ => some k_ ≠ ((.slice Ao8 t574.length co8) : Value).ownBlock) (.slice Ao9 t577.length co9) t577) ∧ Aside0 (Below w.heap.size w w'))
  case atStart => exact ⟨(wrap64 ((t574.length : Int) - 1)), (by first | rfl | (simp; done) | (simp [*]; done)), H', ⟨Nat.le_refl _⟩, ⟨by (with_reducible repeat (first | apply Kd.R_alloc | apply Kd.R_drewN | apply Kd.R_drew)); exact Kd.R_mono HO576.out (fun _ hk => hk.2)⟩, ⟨by (with_reducible repeat (first | apply Kd.R_alloc | apply Kd.R_drewN | apply Kd.R_drew)); exact Kd.R_mono HO579.out (fun _ hk => hk.2)⟩, ⟨bw_ HB.out⟩⟩
  case round =>
   clear H'
   try clear c1
   try clear p2
   try clear c5
   try clear c5b0
   try clear c5b1
   try clear c5b2
   try clear c6
   try clear p6
   obtain ⟨x7_1, rfl, HA, HK1, HO_5, HO_6, HB⟩ := hrel
   cases gk with
   | zero => exact absurd HA.out (by simp [pelorusref01_Cmp.l0])
   | succ k1 =>
    have H := HA.out
    clear HA
    simp only [pelorusref01_Cmp.l0] at H
    by_cases c10 : x7_1 ≥ 0
    ·rw [if_pos c10] at H
     have c10b0 : decide (0 ≤ x7_1) = true := decide_eq_true c10
     clear c10
     by_cases c11 : 0 ≤ x7_1
     ·rw [if_pos c11] at H
      have c11b0 : decide (0 ≤ x7_1) = true := decide_eq_true c11
      clear c11
      by_cases c12 : x7_1 < (t574.length : Int)
      ·rw [if_pos c12] at H
       have c12b0 : decide (x7_1 < (t574.length : Int)) = true := decide_eq_true c12
       clear c12
       by_cases c13 : x7_1 < (t577.length : Int)
       ·rw [if_pos c13] at H
        have c13b0 : decide (x7_1 < (t577.length : Int)) = true := decide_eq_true c13
        clear c13
        by_cases c14 : (rd t574 x7_1) < (rd t577 x7_1)
        ·rw [if_pos c14] at H
         have c14b0 : decide ((rd t574 x7_1) < (rd t577 x7_1)) = true := decide_eq_true c14
         clear c14
         obtain rfl := Option.some.inj H
         have p580 : 0 ≤ (x7_1 : Int) := of_decide_eq_true (by first | (with_reducible assumption) | assumption)
         have q580 : x7_1 < (t574.length : Int) := of_decide_eq_true (by first | (with_reducible assumption) | assumption)
         obtain ⟨ad580, e580, hx580_0⟩ := Kd.at_int (Kd.R_reads' HO_5.out).2.2 x7_1 p580 q580
         cases e580
         replace p580 := eq_true p580
         replace q580 := eq_true q580
         have p581 : 0 ≤ (x7_1 : Int) := of_decide_eq_true (by first | (with_reducible assumption) | assumption)
         have q581 : x7_1 < (t577.length : Int) := of_decide_eq_true (by first | (with_reducible assumption) | assumption)
         obtain ⟨ad581, e581, hx581_0⟩ := Kd.at_int (Kd.R_reads' HO_6.out).2.2 x7_1 p581 q581
         cases e581
         replace p581 := eq_true p581
         replace q581 := eq_true q581
         go_wp2
         repeat (go_quiet (fail); try go_wp2)
         go_ret
         exact ⟨rf_, bw_ HB.out⟩
        ·rw [if_neg c14] at H
         have c14b0 : decide ((rd t574 x7_1) < (rd t577 x7_1)) = false := decide_eq_false c14
         clear c14
         by_cases c15 : (rd t574 x7_1) > (rd t577 x7_1)
         ·rw [if_pos c15] at H
          have c15b0 : decide ((rd t577 x7_1) < (rd t574 x7_1)) = true := decide_eq_true c15
          clear c15
          obtain rfl := Option.some.inj H
          have p580 : 0 ≤ (x7_1 : Int) := of_decide_eq_true (by first | (with_reducible assumption) | assumption)
          have q580 : x7_1 < (t574.length : Int) := of_decide_eq_true (by first | (with_reducible assumption) | assumption)
          obtain ⟨ad580, e580, hx580_0⟩ := Kd.at_int (Kd.R_reads' HO_5.out).2.2 x7_1 p580 q580
          cases e580
          replace p580 := eq_true p580
          replace q580 := eq_true q580
          have p581 : 0 ≤ (x7_1 : Int) := of_decide_eq_true (by first | (with_reducible assumption) | assumption)
          have q581 : x7_1 < (t577.length : Int) := of_decide_eq_true (by first | (with_reducible assumption) | assumption)
          obtain ⟨ad581, e581, hx581_0⟩ := Kd.at_int (Kd.R_reads' HO_6.out).2.2 x7_1 p581 q581
          cases e581
          replace p581 := eq_true p581
          replace q581 := eq_true q581
          have p582 : 0 ≤ (x7_1 : Int) := of_decide_eq_true (by first | (with_reducible assumption) | assumption)
          have q582 : x7_1 < (t574.length : Int) := of_decide_eq_true (by first | (with_reducible assumption) | assumption)
          obtain ⟨ad582, e582, hx582_0⟩ := Kd.at_int (Kd.R_reads' HO_5.out).2.2 x7_1 p582 q582
          obtain rfl : ad580 = ad582 := (by injection e582)
          replace p582 := eq_true p582
          replace q582 := eq_true q582
          have p583 : 0 ≤ (x7_1 : Int) := of_decide_eq_true (by first | (with_reducible assumption) | assumption)
          have q583 : x7_1 < (t577.length : Int) := of_decide_eq_true (by first | (with_reducible assumption) | assumption)
          obtain ⟨ad583, e583, hx583_0⟩ := Kd.at_int (Kd.R_reads' HO_6.out).2.2 x7_1 p583 q583
          obtain rfl : ad581 = ad583 := (by injection e583)
          replace p583 := eq_true p583
          replace q583 := eq_true q583
          go_wp2
          repeat (go_quiet (fail); try go_wp2)
          go_ret
          exact ⟨rf_, bw_ HB.out⟩
         ·rw [if_neg c15] at H
          have c15b0 : decide ((rd t577 x7_1) < (rd t574 x7_1)) = false := decide_eq_false c15
          clear c15
          have H' := Aside0.mk H
          clear H
          have p580 : 0 ≤ (x7_1 : Int) := of_decide_eq_true (by first | (with_reducible assumption) | assumption)
          have q580 : x7_1 < (t574.length : Int) := of_decide_eq_true (by first | (with_reducible assumption) | assumption)
          obtain ⟨ad580, e580, hx580_0⟩ := Kd.at_int (Kd.R_reads' HO_5.out).2.2 x7_1 p580 q580
          cases e580
          replace p580 := eq_true p580
          replace q580 := eq_true q580
          have p581 : 0 ≤ (x7_1 : Int) := of_decide_eq_true (by first | (with_reducible assumption) | assumption)
          have q581 : x7_1 < (t577.length : Int) := of_decide_eq_true (by first | (with_reducible assumption) | assumption)
          obtain ⟨ad581, e581, hx581_0⟩ := Kd.at_int (Kd.R_reads' HO_6.out).2.2 x7_1 p581 q581
          cases e581
          replace p581 := eq_true p581
          replace q581 := eq_true q581
          have p582 : 0 ≤ (x7_1 : Int) := of_decide_eq_true (by first | (with_reducible assumption) | assumption)
          have q582 : x7_1 < (t574.length : Int) := of_decide_eq_true (by first | (with_reducible assumption) | assumption)
          obtain ⟨ad582, e582, hx582_0⟩ := Kd.at_int (Kd.R_reads' HO_5.out).2.2 x7_1 p582 q582
          obtain rfl : ad580 = ad582 := (by injection e582)
          replace p582 := eq_true p582
          replace q582 := eq_true q582
          have p583 : 0 ≤ (x7_1 : Int) := of_decide_eq_true (by first | (with_reducible assumption) | assumption)
          have q583 : x7_1 < (t577.length : Int) := of_decide_eq_true (by first | (with_reducible assumption) | assumption)
          obtain ⟨ad583, e583, hx583_0⟩ := Kd.at_int (Kd.R_reads' HO_6.out).2.2 x7_1 p583 q583
          obtain rfl : ad581 = ad583 := (by injection e583)
          replace p583 := eq_true p583
          replace q583 := eq_true q583
          go_wp2
          repeat (go_quiet (fail); try go_wp2)
          go_roundg k1
          case measure => have := HK1.out; omega
          case rel => exact ⟨(wrap64 (x7_1 - 1)), (by first | rfl | (simp; done) | (simp [*]; done)), H', ⟨by have := HK1.out; omega⟩, ⟨by (with_reducible repeat (first | apply Kd.R_alloc | apply Kd.R_drewN | apply Kd.R_drew)); exact HO_5.out⟩, ⟨by (with_reducible repeat (first | apply Kd.R_alloc | apply Kd.R_drewN | apply Kd.R_drew)); exact HO_6.out⟩, ⟨bw_ HB.out⟩⟩
       ·rw [if_neg c13] at H
        exact absurd H (by simp)
      ·rw [if_neg c12] at H
       exact absurd H (by simp)
     ·rw [if_neg c11] at H
      exact absurd H (by simp)
    ·rw [if_neg c10] at H
     have c10b0 : decide (0 ≤ x7_1) = false := decide_eq_false c10
     clear c10
     obtain rfl := Option.some.inj H
     go_wp2
     repeat (go_quiet (fail); try go_wp2)
     go_ret
     exact ⟨rf_, bw_ HB.out⟩
 ·rw [if_neg c5] at H
  have c5b0 : ((t574.length : Int) == (t577.length : Int)) = false := beq_eq_false_iff_ne.mpr c5
  have c5b1 : ((t574.length : Int) != (t577.length : Int)) = true := bne_iff_ne.mpr c5
  have c5b2 : (t574.length == t577.length) = false := by first | simpa using c5 | (simp at c5 ⊢; omega)
  by_cases c16 : (t574.length : Int) < (t577.length : Int)
  ·rw [if_pos c16] at H
   have c16b0 : decide ((t574.length : Int) < (t577.length : Int)) = true := decide_eq_true c16
   have c16b1 : decide (t574.length < t577.length) = true := decide_eq_true (Int.ofNat_lt.mp c16)
   clear c16
   obtain rfl := Option.some.inj H
   go_enter Try.func65, Try.ntmps65
   iterate 3 (try go_wp2_with (first | (go_at_call 41; (with_reducible refine (pelorusref01_Trim.calls k _ _ l0 t574 _ ?side1 ?side2 A3.out).mono ?_); (case side1 => exact kc_ HR0.out); (case side2 => exact HC0.out); rintro e w17 ⟨v575, rfl, ho0, hb⟩; have HO576 := Aside0.mk (Kd.R_lower ho0 (below_size (bw_ HB.out))); replace HB := bq_ HB hb; (try clear hb); (try clear hb2); (try clear hk); (try clear hi); (try clear ho0)) | (go_at_call 41; (with_reducible refine (pelorusref01_Trim.calls k _ _ l1 t577 _ ?side1 ?side2 A4.out).mono ?_); (case side1 => exact kc_ (Kd.C_below HR1.out HB.out)); (case side2 => exact HC1.out); rintro e w18 ⟨v578, rfl, ho0, hb⟩; have HO579 := Aside0.mk (Kd.R_lower (Kd.R_new' ho0 (Kd.R_lt (kr_ HO576.out))) (below_size (bw_ HB.out))); replace HO576 := Aside0.mk (Kd.R_elder' (kr_ HO576.out) (Kd.R_base ho0) hb); replace HB := bq_ HB hb; (try clear hb); (try clear hb2); (try clear hk); (try clear hi); (try clear ho0); obtain ⟨Ao19, co19, eo19⟩ := Kd.R_slice HO576.out; subst eo19; obtain ⟨Ao20, co20, eo20⟩ := Kd.R_slice HO579.out; subst eo20)); try (go_quiet (fail)))
   go_ret
   exact ⟨rf_, bw_ HB.out⟩
  ·rw [if_neg c16] at H
   have c16b0 : decide ((t574.length : Int) < (t577.length : Int)) = false := decide_eq_false c16
   have c16b1 : decide (t574.length < t577.length) = false := decide_eq_false (fun h => c16 (Int.ofNat_lt.mpr h))
   clear c16
   obtain rfl := Option.some.inj H
   go_enter Try.func65, Try.ntmps65
   iterate 3 (try go_wp2_with (first | (go_at_call 41; (with_reducible refine (pelorusref01_Trim.calls k _ _ l0 t574 _ ?side1 ?side2 A3.out).mono ?_); (case side1 => exact kc_ HR0.out); (case side2 => exact HC0.out); rintro e w21 ⟨v575, rfl, ho0, hb⟩; have HO576 := Aside0.mk (Kd.R_lower ho0 (below_size (bw_ HB.out))); replace HB := bq_ HB hb; (try clear hb); (try clear hb2); (try clear hk); (try clear hi); (try clear ho0)) | (go_at_call 41; (with_reducible refine (pelorusref01_Trim.calls k _ _ l1 t577 _ ?side1 ?side2 A4.out).mono ?_); (case side1 => exact kc_ (Kd.C_below HR1.out HB.out)); (case side2 => exact HC1.out); rintro e w22 ⟨v578, rfl, ho0, hb⟩; have HO579 := Aside0.mk (Kd.R_lower (Kd.R_new' ho0 (Kd.R_lt (kr_ HO576.out))) (below_size (bw_ HB.out))); replace HO576 := Aside0.mk (Kd.R_elder' (kr_ HO576.out) (Kd.R_base ho0) hb); replace HB := bq_ HB hb; (try clear hb); (try clear hb2); (try clear hk); (try clear hi); (try clear ho0); obtain ⟨Ao23, co23, eo23⟩ := Kd.R_slice HO576.out; subst eo23; obtain ⟨Ao24, co24, eo24⟩ := Kd.R_slice HO579.out; subst eo24)); try (go_quiet (fail)))
   go_ret
   exact ⟨rf_, bw_ HB.out⟩

/-! ### pelorusref01_Sub: function 47 -/
set_option maxHeartbeats 8000000 in
set_option maxRecDepth 100000 in
theorem pelorusref01_Sub.calls (k : Nat) (A0 : Option Addr) (c0 : Nat) (l0 : List Int) (A1 : Option Addr) (c1 : Nat) (l1 : List Int) (r1 : List Int) (r2 : Bool) (w : World) (hr0 : Kd.C (Kd.int .u32) w A0 l0.length l0) (hc0 : l0.length ≤ c0) (hr1 : Kd.C (Kd.int .u32) w A1 l1.length l1) (hc1 : l1.length ≤ c1) (h : pelorusref01_Sub.f k l0 l1 = some (r1, r2)) :
  Calls Try.prog 47 #[.slice A0 l0.length c0, .slice A1 l1.length c1] w fun e w' => ∃ v0_ : Value, e = .returned (.tuple #[v0_, .bool r2]) ∧ Kd.R (Kd.int .u32) 47 w' w.heap.size (fun _ => True) v0_ r1 ∧ Below w.heap.size w w' := by
 have HR0 := Aside0.mk hr0
 have HC0 := Aside0.mk hc0
 clear hr0 hc0
 have HR1 := Aside0.mk hr1
 have HC1 := Aside0.mk hc1
 clear hr1 hc1
 have HB := Aside0.mk (Below.refl w.heap.size w)
 have H : ((pelorusref01_Cmp.f k l0 l1).bind fun t584 => (if t584 < 0 then (some (([] : List Int), false)) else (pelorusref01_Sub.l0 k l0 l1 ([] : List Int) 0 0))) = some (r1, r2) := h
 clear h
 replace H := Option.bind_eq_some_iff.mp H
 obtain ⟨t584, A30, H⟩ := H
 (try dsimp only at H)
 have A3 := Aside0.mk A30
 clear A30
 by_cases c4 : t584 < 0
 ·rw [if_pos c4] at H
  have c4b0 : decide (t584 < 0) = true := decide_eq_true c4
  clear c4
  simp only [Option.some.injEq, Prod.mk.injEq] at H
  obtain ⟨rfl, rfl⟩ := H
  go_enter Try.func47, Try.ntmps47
  go_wp2_with (first | ((with_reducible refine gate_callee (f := 65) rfl ?_); refine gl_ (some 12) Try.func65 #[.slice A0 l0.length c0, .slice A1 l1.length c1] ?_; (with_reducible refine (pelorusref01_Cmp.calls k _ _ l0 _ _ l1 t584 _ ?side1 ?side2 ?side3 ?side4 A3.out).mono ?_); (case side1 => exact kc_ HR0.out); (case side2 => exact HC0.out); (case side3 => exact kc_ HR1.out); (case side4 => exact HC1.out); rintro e w5 ⟨rfl, hb⟩; refine ⟨_, rfl, ?_⟩; replace HB := bq_ HB hb; (try clear hb); (try clear hb2); (try clear hk); (try clear hi)))
  go_ret2
  exact ⟨_, rf_, by first | exact Kd.R_nil _ _ _ _ _ | exact Kd.N_nil _ _ _ _ _ | exact Kd.V_nil _ _ _ _ _ | exact Kd.Q_nil _ _ _ _ _ | exact Kd.S_nil _ _ _ _ _, bw_ HB.out⟩
 ·rw [if_neg c4] at H
  have c4b0 : decide (t584 < 0) = false := decide_eq_false c4
  clear c4
  have H' := Aside0.mk H
  clear H
  go_enter Try.func47, Try.ntmps47
  go_wp2_with (first | ((with_reducible refine gate_callee (f := 65) rfl ?_); refine gl_ (some 12) Try.func65 #[.slice A0 l0.length c0, .slice A1 l1.length c1] ?_; (with_reducible refine (pelorusref01_Cmp.calls k _ _ l0 _ _ l1 t584 _ ?side1 ?side2 ?side3 ?side4 A3.out).mono ?_); (case side1 => exact kc_ HR0.out); (case side2 => exact HC0.out); (case side3 => exact kc_ HR1.out); (case side4 => exact HC1.out); rintro e w6 ⟨rfl, hb⟩; refine ⟨_, rfl, ?_⟩; replace HB := bq_ HB hb; (try clear hb); (try clear hb2); (try clear hk); (try clear hi)))
  go_loopg [6, 7, 8] k (fun kq v6 v7 v8 w' => ∃ (x6_1 : List Int) (x7_1 : Int) (x8_1 : Int), v7 = .int .u64 x7_1 ∧ v8 = .int .i64 x8_1 ∧ Aside0 (pelorusref01_Sub.l0 kq l0 l1 x6_1 x7_1 x8_1 = some (r1, r2)) ∧ Aside0 (kq ≤ k) ∧ Aside0 (Kd.R (Kd.int .u32) 47 w' w.heap.size (fun _ => True) v6 x6_1) ∧ Aside0 (Below w.heap.size w w'))
  case atStart => exact ⟨(([] : List Int)), (0), (0), (by first | rfl | (simp; done) | (simp [*]; done)), (by first | rfl | (simp; done) | (simp [*]; done)), H', ⟨Nat.le_refl _⟩, ⟨by first | exact Kd.R_nil _ _ _ _ _ | exact Kd.N_nil _ _ _ _ _ | exact Kd.V_nil _ _ _ _ _ | exact Kd.Q_nil _ _ _ _ _ | exact Kd.S_nil _ _ _ _ _⟩, ⟨bw_ HB.out⟩⟩
  case round =>
   clear H'
   try clear c1
   try clear p2
   try clear c4
   try clear c4b0
   try clear c6
   obtain ⟨x6_1, x7_1, x8_1, rfl, rfl, HA, HK1, HO_6, HB⟩ := hrel
   cases gk with
   | zero => exact absurd HA.out (by simp [pelorusref01_Sub.l0])
   | succ k1 =>
    have H := HA.out
    clear HA
    simp only [pelorusref01_Sub.l0] at H
    by_cases c7 : x8_1 < (l0.length : Int)
    ·rw [if_pos c7] at H
     have c7b0 : decide (x8_1 < (l0.length : Int)) = true := decide_eq_true c7
     clear c7
     replace H := Option.bind_eq_some_iff.mp H
     obtain ⟨t585, A80, H⟩ := H
     (try dsimp only at H)
     have A8 := Aside0.mk A80
     clear A80
     replace H := Option.bind_eq_some_iff.mp H
     obtain ⟨t586, A90, H⟩ := H
     (try dsimp only at H)
     have A9 := Aside0.mk A90
     clear A90
     by_cases c10 : x6_1.length < 35184372088832
     ·rw [if_pos c10] at H
      have LMc10 := Aside0.mk c10
      clear c10
      obtain ⟨y587, hy587⟩ : ∃ y_ : List Int, y_ = (x6_1 ++ [(Int.tmod (IntKind.u64.wrap ((IntKind.u64.wrap ((IntKind.u64.wrap (4294967296 + t585)) - t586)) - x7_1)) 4294967296) % 4294967296]) := ⟨_, rfl⟩
      replace H : (pelorusref01_Sub.l0 k1 l0 l1 y587 (IntKind.u64.wrap (1 - (IntKind.u64.wrap (Int.tdiv (IntKind.u64.wrap ((IntKind.u64.wrap ((IntKind.u64.wrap (4294967296 + t585)) - t586)) - x7_1)) 4294967296)))) (wrap64 (x8_1 + 1))) = some (r1, r2) := by first | (rw [hy587]; with_reducible exact H) | (have H2_ := (Option.bind_some _ _).symm.trans H; rw [hy587]; with_reducible exact H2_) | (have H2_ := (Option.bind_some _ _).symm.trans H; with_reducible exact H2_) | with_reducible exact H | (rw [hy587]; exact H) | exact H
      have Ny587 := Aside0.mk hy587
      clear hy587
      have H' := Aside0.mk H
      clear H
      go_wp2_with (first | ((with_reducible refine gate_callee (f := 64) rfl ?_); refine gl_ (some 22) Try.func64 #[.slice A0 l0.length c0, .int .i64 x8_1] ?_; (with_reducible refine (pelorusref01_at.calls _ _ l0 x8_1 t585 _ ?side1 ?side2 A8.out).mono ?_); (case side1 => exact kc_ (Kd.C_below HR0.out HB.out)); (case side2 => exact HC0.out); rintro e w' ⟨rfl, ⟨nd, rfl⟩⟩; refine ⟨_, rfl, ?_⟩) | ((with_reducible refine gate_callee (f := 64) rfl ?_); refine gl_ (some 26) Try.func64 #[.slice A1 l1.length c1, .int .i64 x8_1] ?_; (with_reducible refine (pelorusref01_at.calls _ _ l1 x8_1 t586 _ ?side1 ?side2 A9.out).mono ?_); (case side1 => exact kc_ (Kd.C_below HR1.out (bw_ HB.out))); (case side2 => exact HC1.out); rintro e w' ⟨rfl, ⟨nd, rfl⟩⟩; refine ⟨_, rfl, ?_⟩) | ((with_reducible refine gate_builtin (b := .append) (xs := #[.tmp 30, .tmp 34]) rfl ?_); at_builtin; refine Kd.R_append (Kd.int .u32) (w0 := w) w.heap.size rfl (.tmp 30) (.tmp 34) 22 47 (.int .u32 0) 4 rfl Try.underlying22 info47 rfl (by decide) (by omega) u6 x6_1 ((Int.tmod (IntKind.u64.wrap ((IntKind.u64.wrap ((IntKind.u64.wrap (4294967296 + t585)) - t586)) - x7_1)) 4294967296) % 4294967296) [.int .u32 ((Int.tmod (IntKind.u64.wrap ((IntKind.u64.wrap ((IntKind.u64.wrap (4294967296 + t585)) - t586)) - x7_1)) 4294967296) % 4294967296)] (fun _ => True) (fun _ => False) rfl rfl ?aP (fun _ hk => hk.elim) ?aF ?aO ?aB ?aS ?aL ?_; (case aP => exact rfl); (case aB => exact (bw_ HB.out)); (case aF => exact (fun _ _ => trivial)); (case aO => exact (kr_ HO_6.out)); (case aS => exact (below_size (bw_ HB.out))); (case aL => have := LMc10.out; omega); intro v588 w11 ho hb hg hat; rw [← Ny587.out] at ho; have HO589 := Aside0.mk (ho); replace HB := Aside0.mk (hb); clear HO_6; clear ho hb hg hat))
      go_roundg k1
      case measure => have := HK1.out; omega
      case rel => exact ⟨(y587), (IntKind.u64.wrap (1 - (IntKind.u64.wrap (Int.tdiv (IntKind.u64.wrap ((IntKind.u64.wrap ((IntKind.u64.wrap (4294967296 + t585)) - t586)) - x7_1)) 4294967296)))), (wrap64 (x8_1 + 1)), (by first | rfl | (simp; done) | (simp [*]; done)), (by first | rfl | (simp; done) | (simp [*]; done)), H', ⟨by have := HK1.out; omega⟩, ⟨by (with_reducible repeat (first | apply Kd.R_alloc | apply Kd.R_drewN | apply Kd.R_drew)); exact HO589.out⟩, ⟨bw_ HB.out⟩⟩
     ·rw [if_neg c10] at H
      exact absurd H (by simp)
    ·rw [if_neg c7] at H
     have c7b0 : decide (x8_1 < (l0.length : Int)) = false := decide_eq_false c7
     clear c7
     replace H := Option.bind_eq_some_iff.mp H
     obtain ⟨t590, A120, H⟩ := H
     (try dsimp only at H)
     have A12 := Aside0.mk A120
     clear A120
     simp only [Option.some.injEq, Prod.mk.injEq] at H
     obtain ⟨rfl, rfl⟩ := H
     obtain ⟨Ao13, co13, eo13⟩ := Kd.R_slice HO_6.out
     subst eo13
     go_wp2_with (first | ((with_reducible refine gate_callee (f := 41) rfl ?_); refine gl_ (some 40) Try.func41 #[.slice Ao13 x6_1.length co13] ?_; (with_reducible refine (pelorusref01_Trim.calls k1 _ _ x6_1 t590 _ ?side1 ?side2 A12.out).mono ?_); (case side1 => exact kc_ (Kd.R_reads' HO_6.out).2.2); (case side2 => exact (Kd.R_reads' HO_6.out).2.1); rintro e w14 ⟨v591, rfl, ho0, hb⟩; refine ⟨_, rfl, ?_⟩; have HO592 := Aside0.mk (Kd.R_lower (Kd.R_new' ho0 (Kd.R_lt (kr_ HO_6.out))) (below_size (bw_ HB.out))); replace HO_6 := Aside0.mk (Kd.R_elder' (kr_ HO_6.out) (Kd.R_base ho0) hb); replace HB := bq_ HB hb; (try clear hb); (try clear hb2); (try clear hk); (try clear hi); (try clear ho0)))
     go_ret2
     exact ⟨_, rf_, by (with_reducible repeat (first | apply Kd.R_alloc | apply Kd.R_drewN | apply Kd.R_drew)); exact Kd.R_mono HO592.out (fun _ hk => trivial), bw_ HB.out⟩

/-! ### pelorusref02_Add: function 29 -/
theorem pelorusref02_Add.tab2 : rtab .any (opsOf Try.f29 2) = pelorusref02_Add.T2 := by kernel_rfl
theorem pelorusref02_Add.bits2 : waitsOk pelorusref02_Add.T2.2 pelorusref02_Add.B2 = true := by kernel_rfl
set_option maxHeartbeats 8000000 in
set_option maxRecDepth 100000 in
theorem pelorusref02_Add.calls (k : Nat) (a0_0 : Bool) (A0_1 : Option Addr) (c0_1 : Nat) (l0_1 : List Int) (a1_0 : Bool) (A1_1 : Option Addr) (c1_1 : Nat) (l1_1 : List Int) (r1 : Bool) (r2 : List Int) (w : World) (hr0_1 : Kd.C (Kd.int .u32) w A0_1 l0_1.length l0_1) (hc0_1 : l0_1.length ≤ c0_1) (hr1_1 : Kd.C (Kd.int .u32) w A1_1 l1_1.length l1_1) (hc1_1 : l1_1.length ≤ c1_1) (h : pelorusref02_Add.f k a0_0 l0_1 a1_0 l1_1 = some (r1, r2)) :
  Calls Try.prog 29 #[.agg #[.bool a0_0, .slice A0_1 l0_1.length c0_1], .agg #[.bool a1_0, .slice A1_1 l1_1.length c1_1]] w fun e w' => ∃ v1_ : Value, e = .returned (.agg #[.bool r1, v1_]) ∧ Kd.R (Kd.int .u32) 47 w' w.heap.size (fun _ => True) v1_ r2 ∧ Below w.heap.size w w' := by
 have hu24 := Try.underlying24
 have HR0_1 := Aside0.mk hr0_1
 have HC0_1 := Aside0.mk hc0_1
 clear hr0_1 hc0_1
 have HR1_1 := Aside0.mk hr1_1
 have HC1_1 := Aside0.mk hc1_1
 clear hr1_1 hc1_1
 have HB := Aside0.mk (Below.refl w.heap.size w)
 have H : (if (a0_0 == a1_0) = true then ((pelorusref01_Add.f k l0_1 l1_1).bind fun t596 => ((pelorusref02_Make.f k a0_0 t596).bind fun bt599 => (some (bt599.1, bt599.2)))) else ((pelorusref01_Sub.f k l0_1 l1_1).bind fun bt603 => (if bt603.2 = true then ((pelorusref02_Make.f k a0_0 bt603.1).bind fun bt607 => (some (bt607.1, bt607.2))) else ((pelorusref01_Sub.f k l1_1 l0_1).bind fun bt611 => ((pelorusref02_Make.f k a1_0 bt611.1).bind fun bt615 => (some (bt615.1, bt615.2))))))) = some (r1, r2) := h
 clear h
 by_cases c3 : (a0_0 == a1_0) = true
 ·rw [if_pos c3] at H
  have c3b0 : (a0_0 == a1_0) = true := c3
  (try (have c3b1 : decide (a0_0 = a1_0) = true := by simpa using c3))
  (try (have c3b2 : (a0_0 == a1_0) = true := by simpa using c3))
  clear c3
  replace H := Option.bind_eq_some_iff.mp H
  obtain ⟨t596, A40, H⟩ := H
  (try dsimp only at H)
  have A4 := Aside0.mk A40
  clear A40
  replace H := Option.bind_eq_some_iff.mp H
  obtain ⟨⟨t599, t600⟩, A50, H⟩ := H
  (try dsimp only at H)
  have A5 := Aside0.mk A50
  clear A50
  simp only [Option.some.injEq, Prod.mk.injEq] at H
  obtain ⟨rfl, rfl⟩ := H
  go_enter Try.func29, Try.ntmps29
  try go_wp2_with (first | ((with_reducible refine gate_dst (N := 2) rfl ?_); refine bx_ 2 #[.bool a0_0, .slice A0_1 l0_1.length c0_1] 24 ?_; intro gb593 hg w6 hbox hb; have BK593 := Aside0.mk (hbox); have GW593 := ge_ hg HB; have GE593 := ge_ hg HB; replace HB := bq_ HB hb; clear hb hbox hg) | ((with_reducible refine gate_dst (N := 3) rfl ?_); refine bx_ 3 #[.bool a1_0, .slice A1_1 l1_1.length c1_1] 24 ?_; intro gb594 hg w7 hbox hb; have BK594 := Aside0.mk (hbox); have GW594 := ge_ hg HB; have GE594 := ge_ hg HB; have NB593_594 := nb_ hg BK593; have NB594_593 := nc_ hg BK593; replace BK593 := kq_ BK593 hb; replace HB := bq_ HB hb; clear hb hbox hg) | ((with_reducible refine gate_dst (N := 4) rfl ?_); refine bx_ 4 #[.bool false, .slice none 0 0] 24 ?_; intro gb595 hg w8 hbox hb; have BK595 := Aside0.mk (hbox); have GW595 := ge_ hg HB; have GE595 := ge_ hg HB; have NB593_595 := nb_ hg BK593; have NB595_593 := nc_ hg BK593; have NB594_595 := nb_ hg BK594; have NB595_594 := nc_ hg BK594; replace BK593 := kq_ BK593 hb; replace BK594 := kq_ BK594 hb; replace HB := bq_ HB hb; clear hb hbox hg; have hnb9 := NB593_594.out; have hnc9 := NB594_593.out; have hnb10 := NB593_595.out; have hnc10 := NB595_593.out; obtain ⟨hcz11_0, hcz11_1, hfz11_0, hfz11_1⟩ := c2_ BK593; have hnb12 := NB594_595.out; have hnc12 := NB595_594.out; obtain ⟨hcz13_0, hcz13_1, hfz13_0, hfz13_1⟩ := c2_ BK594))
  replace BK593 := Aside0.mk (blk_drew BK593.out)
  replace BK594 := Aside0.mk (blk_drew BK594.out)
  replace BK595 := Aside0.mk (blk_drew BK595.out)
  replace HB := Aside0.mk (below_drew1 HB.out)
  refine start_ (n := 9) (S := fun w' => w'.cell? ⟨gb593, 0, none⟩ = some (.bool a0_0) ∧ w'.cell? ⟨gb593, 1, none⟩ = some (.slice A0_1 l0_1.length c0_1) ∧ w'.cell? ⟨gb594, 0, none⟩ = some (.bool a1_0) ∧ w'.cell? ⟨gb594, 1, none⟩ = some (.slice A1_1 l1_1.length c1_1)) (ds := []) #[false, false, false, false, false, false, false, false, false] (by kernel_rfl) rfl rfl ⟨(blk_cell BK593.out 0).trans rfl, (blk_cell BK593.out 1).trans rfl, (blk_cell BK594.out 0).trans rfl, (blk_cell BK594.out 1).trans rfl⟩ (fun hHeld => ?_); refine with_tabW pelorusref02_Add.tab2 pelorusref02_Add.bits2 (fun HT_ HW_ => ?_)
  generalize w8.drew = w14 at BK593 BK594 BK595 HB hHeld ⊢
  refine pure_ (i := 0) (N := some 12) (v := ?_) (a' := ?_) #[true, false, false, false, false, false, false, false, false] rfl rfl (any_of HT_.out (by kernel_rfl)) (fun _ _ _ h => h) (Or.inl ⟨by rfl, ?_⟩) ?_ ?_
  rotate_left
  ·intro w'
   go_simp
   with_reducible rfl
  rotate_left
  ·exact pt_
  refine pure_ (i := 2) (N := some 14) (v := ?_) (a' := ?_) #[true, false, true, false, false, false, false, false, false] rfl rfl (any_of HT_.out (by kernel_rfl)) (fun _ _ _ h => h) (Or.inl ⟨by rfl, ?_⟩) ?_ ?_
  rotate_left
  ·intro w'
   go_simp
   with_reducible rfl
  rotate_left
  ·exact pt_
  refine pure_ (i := 4) (N := some 16) (v := ?_) (a' := ?_) #[true, false, true, false, true, false, false, false, false] rfl rfl (any_of HT_.out (by kernel_rfl)) (fun _ _ _ h => h) (Or.inl ⟨by rfl, ?_⟩) ?_ ?_
  rotate_left
  ·intro w'
   go_simp
   with_reducible rfl
  rotate_left
  ·exact pt_
  refine take_ (i := 1) (N := some 13) (v := ?_) (a' := ?_) #[true, true, true, false, true, false, false, false, false] rfl rfl (take_ofW HT_.out HW_.out (by kernel_rfl)) (fun _ _ _ h => h) (Or.inl ⟨by rfl, ?_⟩) hHeld ?_ ?_
  rotate_left
  ·rintro w' ⟨s0, s1, s2, s3⟩
   go_simp
   with_reducible rfl
  rotate_left
  ·exact pt_
  refine take_ (i := 3) (N := some 15) (v := ?_) (a' := ?_) #[true, true, true, true, true, false, false, false, false] rfl rfl (take_ofW HT_.out HW_.out (by kernel_rfl)) (fun _ _ _ h => h) (Or.inl ⟨by rfl, ?_⟩) hHeld ?_ ?_
  rotate_left
  ·rintro w' ⟨s0, s1, s2, s3⟩
   go_simp
   with_reducible rfl
  rotate_left
  ·exact pt_
  refine take_ (i := 5) (N := some 17) (v := ?_) (a' := ?_) #[true, true, true, true, true, true, false, false, false] rfl rfl (take_ofW HT_.out HW_.out (by kernel_rfl)) (fun _ _ _ h => h) (Or.inl ⟨by rfl, ?_⟩) hHeld ?_ ?_
  rotate_left
  ·rintro w' ⟨s0, s1, s2, s3⟩
   go_simp
   with_reducible rfl
  rotate_left
  ·exact pt_
  refine one_ (i := 6) (N := some 18) #[true, true, true, true, true, true, true, false, false] rfl rfl (one_of HT_.out (by kernel_rfl)) (by decide) (fun K hK => ?_)
  refine gs_ Try.func46 #[.slice A0_1 l0_1.length c0_1, .slice A1_1 l1_1.length c1_1] ?_
  with_reducible refine (pelorusref01_Add.calls k _ _ l0_1 _ _ l1_1 t596 _ ?side1 ?side2 ?side3 ?side4 A4.out).mono ?_
  (case side1 => exact kc_ (Kd.C_below HR0_1.out HB.out))
  (case side2 => exact HC0_1.out)
  (case side3 => exact kc_ (Kd.C_below HR1_1.out HB.out))
  (case side4 => exact HC1_1.out)
  rintro e w15 ⟨v597, rfl, ho0, hb⟩
  refine ⟨_, rfl, ?_⟩
  have HO598 := Aside0.mk (Kd.R_lower ho0 (below_size (bw_ HB.out)))
  replace BK593 := kq_ BK593 hb
  replace BK594 := kq_ BK594 hb
  replace BK595 := kq_ BK595 hb
  replace HB := bq_ HB hb
  (try clear hb)
  (try clear hb2)
  (try clear hk)
  (try clear hi)
  (try clear ho0)
  obtain ⟨Ao16, co16, eo16⟩ := Kd.R_slice HO598.out
  (first | subst eo16 | (injection eo16 with f1_ f2_ f3_; have f4_ := f1_.symm; have f5_ := f3_.symm; clear f1_ f2_ f3_; subst f4_; subst f5_))
  refine hK.out _ _ ⟨(blk_cell BK593.out 0).trans rfl, (blk_cell BK593.out 1).trans rfl, (blk_cell BK594.out 0).trans rfl, (blk_cell BK594.out 1).trans rfl⟩ (fun hHeld => ?_)
  clear hK K
  refine norm_ (a' := ?_) ?_ ?_
  rotate_left
  ·show Act.put _ (some 18) _ = _
   exact pt_
  refine one_ (i := 7) (N := some 19) #[true, true, true, true, true, true, true, true, false] rfl rfl (one_of HT_.out (by kernel_rfl)) (by decide) (fun K hK => ?_)
  refine gs_ Try.func20 #[.bool a0_0, .slice Ao16 t596.length co16] ?_
  with_reducible refine (pelorusref02_Make.calls k a0_0 _ _ t596 t599 t600 _ ?side1 ?side2 A5.out).mono ?_
  (case side1 => exact kc_ (Kd.R_reads' HO598.out).2.2)
  (case side2 => exact (Kd.R_reads' HO598.out).2.1)
  rintro e w17 ⟨v601, rfl, ho0, hb⟩
  refine ⟨_, rfl, ?_⟩
  have HO602 := Aside0.mk (Kd.R_lower (Kd.R_new' ho0 (Kd.R_lt (kr_ HO598.out))) (below_size (bw_ HB.out)))
  replace HO598 := Aside0.mk (Kd.R_elder' (kr_ HO598.out) (Kd.R_base ho0) hb)
  replace BK593 := kq_ BK593 hb
  replace BK594 := kq_ BK594 hb
  replace BK595 := kq_ BK595 hb
  replace HB := bq_ HB hb
  (try clear hb)
  (try clear hb2)
  (try clear hk)
  (try clear hi)
  (try clear ho0)
  obtain ⟨Ao19, co19, eo19⟩ := Kd.R_slice HO602.out
  (first | subst eo19 | (injection eo19 with f1_ f2_ f3_; have f4_ := f1_.symm; have f5_ := f3_.symm; clear f1_ f2_ f3_; subst f4_; subst f5_))
  refine hK.out _ _ ⟨(blk_cell BK593.out 0).trans rfl, (blk_cell BK593.out 1).trans rfl, (blk_cell BK594.out 0).trans rfl, (blk_cell BK594.out 1).trans rfl⟩ (fun hHeld => ?_)
  clear hK K
  refine norm_ (a' := ?_) ?_ ?_
  rotate_left
  ·show Act.put _ (some 19) _ = _
   exact pt_
  refine one_ (i := 8) (N := none) #[true, true, true, true, true, true, true, true, true] rfl rfl (one_of HT_.out (by kernel_rfl)) (by decide) (fun K hK => ?_)
  have hs18 : w17.cell? ⟨gb595, 0, none⟩ = some (.bool false) := (blk_cell BK595.out 0).trans rfl
  have hfs18 := fz_ BK595 0
  have hns18_0 := NB593_595.out
  have hns18_1 := NB594_595.out
  have hms18_0 := NB595_593.out
  have hms18_1 := NB595_594.out
  have hs20 : w17.cell? ⟨gb595, 1, none⟩ = some (.slice none 0 0) := (blk_cell BK595.out 1).trans rfl
  have hfs20 := fz_ BK595 1
  have hns20_0 := NB593_595.out
  have hns20_1 := NB594_595.out
  have hms20_0 := NB595_593.out
  have hms20_1 := NB595_594.out
  refine skip_ (w1 := ?_) (by rfl) rfl ?_ ?_
  rotate_left
  ·go_simp
   rfl
  refine hK.out _ _ ⟨((cell_far (p := ⟨gb595, _, none⟩) NB593_595.out _).trans (((cell_far (p := ⟨gb595, _, none⟩) NB593_595.out _).trans (hHeld.1)))), ((cell_far (p := ⟨gb595, _, none⟩) NB593_595.out _).trans (((cell_far (p := ⟨gb595, _, none⟩) NB593_595.out _).trans (hHeld.2.1)))), ((cell_far (p := ⟨gb595, _, none⟩) NB594_595.out _).trans (((cell_far (p := ⟨gb595, _, none⟩) NB594_595.out _).trans (hHeld.2.2.1)))), ((cell_far (p := ⟨gb595, _, none⟩) NB594_595.out _).trans (((cell_far (p := ⟨gb595, _, none⟩) NB594_595.out _).trans (hHeld.2.2.2))))⟩ (fun hHeld => ?_)
  clear hK K
  refine done_ (done_of HT_.out (by kernel_rfl)) ?_
  try go_wp2
  refine bodyPost_ret (results_cell_row rfl _ _ gb595 24 #[.bool t599, .slice Ao19 t600.length co19] (0, 0) _ rfl (by refine kb_ ?_; refine bp_ #[.bool t599, .slice none 0 0] 1 ?_; refine bp_ #[.bool false, .slice none 0 0] 0 ?_; exact BK595.out) Try.underlying24 rfl (by kernel_rfl)) rfl ?_
  exact ⟨_, rf_, by (with_reducible repeat (first | apply Kd.R_alloc | apply Kd.R_drewN | apply Kd.R_drew)); exact Kd.R_mono (Kd.R_far (p := ⟨gb595, 1, none⟩) (Kd.R_far (p := ⟨gb595, 0, none⟩) (Kd.R_types HO602.out BK595.out (by decide)) (fun _ hk => hk.2) (.bool t599)) (fun _ hk => hk.2) (.slice Ao19 t600.length co19)) (fun _ hk => trivial), bw_ HB.out⟩
 ·rw [if_neg c3] at H
  have c3b0 : (a0_0 == a1_0) = false := by simpa using c3
  (try (have c3b1 : decide (a0_0 = a1_0) = false := by simpa using c3))
  (try (have c3b2 : (a0_0 == a1_0) = false := by simpa using c3))
  (try (have c3b3 : ¬ (a0_0 = a1_0) := by simpa using c3))
  clear c3
  replace H := Option.bind_eq_some_iff.mp H
  obtain ⟨⟨t603, t604⟩, A210, H⟩ := H
  (try dsimp only at H)
  have A21 := Aside0.mk A210
  clear A210
  by_cases c22 : t604 = true
  ·subst c22
   have H1 : ((pelorusref02_Make.f k a0_0 t603).bind fun bt607 => (some (bt607.1, bt607.2))) = some (r1, r2) := by rw [if_pos rfl] at H; exact H
   clear H
   have H := H1
   clear H1
   replace H := Option.bind_eq_some_iff.mp H
   obtain ⟨⟨t607, t608⟩, A230, H⟩ := H
   (try dsimp only at H)
   have A23 := Aside0.mk A230
   clear A230
   simp only [Option.some.injEq, Prod.mk.injEq] at H
   obtain ⟨rfl, rfl⟩ := H
   go_enter Try.func29, Try.ntmps29
   go_wp2_with (first | ((with_reducible refine gate_dst (N := 2) rfl ?_); refine bx_ 2 #[.bool a0_0, .slice A0_1 l0_1.length c0_1] 24 ?_; intro gb593 hg w24 hbox hb; have BK593 := Aside0.mk (hbox); have GW593 := ge_ hg HB; have GE593 := ge_ hg HB; replace HB := bq_ HB hb; clear hb hbox hg) | ((with_reducible refine gate_dst (N := 3) rfl ?_); refine bx_ 3 #[.bool a1_0, .slice A1_1 l1_1.length c1_1] 24 ?_; intro gb594 hg w25 hbox hb; have BK594 := Aside0.mk (hbox); have GW594 := ge_ hg HB; have GE594 := ge_ hg HB; have NB593_594 := nb_ hg BK593; have NB594_593 := nc_ hg BK593; replace BK593 := kq_ BK593 hb; replace HB := bq_ HB hb; clear hb hbox hg) | ((with_reducible refine gate_dst (N := 4) rfl ?_); refine bx_ 4 #[.bool false, .slice none 0 0] 24 ?_; intro gb595 hg w26 hbox hb; have BK595 := Aside0.mk (hbox); have GW595 := ge_ hg HB; have GE595 := ge_ hg HB; have NB593_595 := nb_ hg BK593; have NB595_593 := nc_ hg BK593; have NB594_595 := nb_ hg BK594; have NB595_594 := nc_ hg BK594; replace BK593 := kq_ BK593 hb; replace BK594 := kq_ BK594 hb; replace HB := bq_ HB hb; clear hb hbox hg; have hnb27 := NB593_594.out; have hnc27 := NB594_593.out; have hnb28 := NB593_595.out; have hnc28 := NB595_593.out; obtain ⟨hcz29_0, hcz29_1, hfz29_0, hfz29_1⟩ := c2_ BK593; have hnb30 := NB594_595.out; have hnc30 := NB595_594.out; obtain ⟨hcz31_0, hcz31_1, hfz31_0, hfz31_1⟩ := c2_ BK594) | ((with_reducible refine gate_callee (f := 47) rfl ?_); refine gl_ (some 25) Try.func47 #[.slice A0_1 l0_1.length c0_1, .slice A1_1 l1_1.length c1_1] ?_; (with_reducible refine (pelorusref01_Sub.calls k _ _ l0_1 _ _ l1_1 t603 true _ ?side1 ?side2 ?side3 ?side4 A21.out).mono ?_); (case side1 => exact kc_ (Kd.C_below HR0_1.out HB.out)); (case side2 => exact HC0_1.out); (case side3 => exact kc_ (Kd.C_below HR1_1.out HB.out)); (case side4 => exact HC1_1.out); rintro e w32 ⟨v605, rfl, ho0, hb⟩; refine ⟨_, rfl, ?_⟩; have HO606 := Aside0.mk (Kd.R_lower ho0 (below_size (bw_ HB.out))); replace BK593 := kq_ BK593 hb; replace BK594 := kq_ BK594 hb; replace BK595 := kq_ BK595 hb; replace HB := bq_ HB hb; (try clear hb); (try clear hb2); (try clear hk); (try clear hi); (try clear ho0); obtain ⟨hcz33_0, hcz33_1, hfz33_0, hfz33_1⟩ := c2_ BK593; obtain ⟨Ao34, co34, eo34⟩ := Kd.R_slice HO606.out; subst eo34) | ((with_reducible refine gate_callee (f := 20) rfl ?_); refine gl_ (some 32) Try.func20 #[.bool a0_0, .slice Ao34 t603.length co34] ?_; (with_reducible refine (pelorusref02_Make.calls k a0_0 _ _ t603 t607 t608 _ ?side1 ?side2 A23.out).mono ?_); (case side1 => exact kc_ (Kd.R_reads' HO606.out).2.2); (case side2 => exact (Kd.R_reads' HO606.out).2.1); rintro e w35 ⟨v609, rfl, ho0, hb⟩; refine ⟨_, rfl, ?_⟩; have HO610 := Aside0.mk (Kd.R_lower (Kd.R_new' ho0 (Kd.R_lt (kr_ HO606.out))) (below_size (bw_ HB.out))); replace HO606 := Aside0.mk (Kd.R_elder' (kr_ HO606.out) (Kd.R_base ho0) hb); replace BK593 := kq_ BK593 hb; replace BK594 := kq_ BK594 hb; replace BK595 := kq_ BK595 hb; replace HB := bq_ HB hb; (try clear hb); (try clear hb2); (try clear hk); (try clear hi); (try clear ho0); obtain ⟨hcz36_0, hcz36_1, hfz36_0, hfz36_1⟩ := c2_ BK595; obtain ⟨Ao37, co37, eo37⟩ := Kd.R_slice HO610.out; subst eo37))
   refine bodyPost_ret (results_cell_row rfl _ _ gb595 24 #[.bool t607, .slice Ao37 t608.length co37] (0, 0) _ rfl (by refine kb_ ?_; refine bp_ #[.bool t607, .slice none 0 0] 1 ?_; refine bp_ #[.bool false, .slice none 0 0] 0 ?_; exact BK595.out) Try.underlying24 rfl (by kernel_rfl)) rfl ?_
   exact ⟨_, rf_, by (with_reducible repeat (first | apply Kd.R_alloc | apply Kd.R_drewN | apply Kd.R_drew)); exact Kd.R_mono (Kd.R_far (p := ⟨gb595, 1, none⟩) (Kd.R_far (p := ⟨gb595, 0, none⟩) (Kd.R_types HO610.out BK595.out (by decide)) (fun _ hk => hk.2) (.bool t607)) (fun _ hk => hk.2) (.slice Ao37 t608.length co37)) (fun _ hk => trivial), bw_ HB.out⟩
  ·replace c22 := Bool.eq_false_iff.mpr c22
   subst c22
   have H1 : ((pelorusref01_Sub.f k l1_1 l0_1).bind fun bt611 => ((pelorusref02_Make.f k a1_0 bt611.1).bind fun bt615 => (some (bt615.1, bt615.2)))) = some (r1, r2) := by rw [if_neg (show ¬ (false = true) by decide)] at H; exact H
   clear H
   have H := H1
   clear H1
   replace H := Option.bind_eq_some_iff.mp H
   obtain ⟨⟨t611, t612⟩, A380, H⟩ := H
   (try dsimp only at H)
   have A38 := Aside0.mk A380
   clear A380
   replace H := Option.bind_eq_some_iff.mp H
   obtain ⟨⟨t615, t616⟩, A390, H⟩ := H
   (try dsimp only at H)
   have A39 := Aside0.mk A390
   clear A390
   simp only [Option.some.injEq, Prod.mk.injEq] at H
   obtain ⟨rfl, rfl⟩ := H
   go_enter Try.func29, Try.ntmps29
   go_wp2_with (first | ((with_reducible refine gate_dst (N := 2) rfl ?_); refine bx_ 2 #[.bool a0_0, .slice A0_1 l0_1.length c0_1] 24 ?_; intro gb593 hg w40 hbox hb; have BK593 := Aside0.mk (hbox); have GW593 := ge_ hg HB; have GE593 := ge_ hg HB; replace HB := bq_ HB hb; clear hb hbox hg) | ((with_reducible refine gate_dst (N := 3) rfl ?_); refine bx_ 3 #[.bool a1_0, .slice A1_1 l1_1.length c1_1] 24 ?_; intro gb594 hg w41 hbox hb; have BK594 := Aside0.mk (hbox); have GW594 := ge_ hg HB; have GE594 := ge_ hg HB; have NB593_594 := nb_ hg BK593; have NB594_593 := nc_ hg BK593; replace BK593 := kq_ BK593 hb; replace HB := bq_ HB hb; clear hb hbox hg) | ((with_reducible refine gate_dst (N := 4) rfl ?_); refine bx_ 4 #[.bool false, .slice none 0 0] 24 ?_; intro gb595 hg w42 hbox hb; have BK595 := Aside0.mk (hbox); have GW595 := ge_ hg HB; have GE595 := ge_ hg HB; have NB593_595 := nb_ hg BK593; have NB595_593 := nc_ hg BK593; have NB594_595 := nb_ hg BK594; have NB595_594 := nc_ hg BK594; replace BK593 := kq_ BK593 hb; replace BK594 := kq_ BK594 hb; replace HB := bq_ HB hb; clear hb hbox hg; have hnb43 := NB593_594.out; have hnc43 := NB594_593.out; have hnb44 := NB593_595.out; have hnc44 := NB595_593.out; obtain ⟨hcz45_0, hcz45_1, hfz45_0, hfz45_1⟩ := c2_ BK593; have hnb46 := NB594_595.out; have hnc46 := NB595_594.out; obtain ⟨hcz47_0, hcz47_1, hfz47_0, hfz47_1⟩ := c2_ BK594) | ((with_reducible refine gate_callee (f := 47) rfl ?_); refine gl_ (some 25) Try.func47 #[.slice A0_1 l0_1.length c0_1, .slice A1_1 l1_1.length c1_1] ?_; (with_reducible refine (pelorusref01_Sub.calls k _ _ l0_1 _ _ l1_1 t603 false _ ?side1 ?side2 ?side3 ?side4 A21.out).mono ?_); (case side1 => exact kc_ (Kd.C_below HR0_1.out HB.out)); (case side2 => exact HC0_1.out); (case side3 => exact kc_ (Kd.C_below HR1_1.out HB.out)); (case side4 => exact HC1_1.out); rintro e w48 ⟨v605, rfl, ho0, hb⟩; refine ⟨_, rfl, ?_⟩; have HO606 := Aside0.mk (Kd.R_lower ho0 (below_size (bw_ HB.out))); replace BK593 := kq_ BK593 hb; replace BK594 := kq_ BK594 hb; replace BK595 := kq_ BK595 hb; replace HB := bq_ HB hb; (try clear hb); (try clear hb2); (try clear hk); (try clear hi); (try clear ho0); obtain ⟨hcz49_0, hcz49_1, hfz49_0, hfz49_1⟩ := c2_ BK594; obtain ⟨hcz50_0, hcz50_1, hfz50_0, hfz50_1⟩ := c2_ BK593) | ((with_reducible refine gate_callee (f := 47) rfl ?_); refine gl_ (some 38) Try.func47 #[.slice A1_1 l1_1.length c1_1, .slice A0_1 l0_1.length c0_1] ?_; (with_reducible refine (pelorusref01_Sub.calls k _ _ l1_1 _ _ l0_1 t611 t612 _ ?side1 ?side2 ?side3 ?side4 A38.out).mono ?_); (case side1 => exact kc_ (Kd.C_below HR1_1.out HB.out)); (case side2 => exact HC1_1.out); (case side3 => exact kc_ (Kd.C_below HR0_1.out HB.out)); (case side4 => exact HC0_1.out); rintro e w51 ⟨v613, rfl, ho0, hb⟩; refine ⟨_, rfl, ?_⟩; have HO614 := Aside0.mk (Kd.R_lower (Kd.R_new' ho0 (Kd.R_lt (kr_ HO606.out))) (below_size (bw_ HB.out))); replace HO606 := Aside0.mk (Kd.R_elder' (kr_ HO606.out) (Kd.R_base ho0) hb); replace BK593 := kq_ BK593 hb; replace BK594 := kq_ BK594 hb; replace BK595 := kq_ BK595 hb; replace HB := bq_ HB hb; (try clear hb); (try clear hb2); (try clear hk); (try clear hi); (try clear ho0); obtain ⟨hcz52_0, hcz52_1, hfz52_0, hfz52_1⟩ := c2_ BK594; obtain ⟨Ao53, co53, eo53⟩ := Kd.R_slice HO614.out; subst eo53) | ((with_reducible refine gate_callee (f := 20) rfl ?_); refine gl_ (some 44) Try.func20 #[.bool a1_0, .slice Ao53 t611.length co53] ?_; (with_reducible refine (pelorusref02_Make.calls k a1_0 _ _ t611 t615 t616 _ ?side1 ?side2 A39.out).mono ?_); (case side1 => exact kc_ (Kd.R_reads' HO614.out).2.2); (case side2 => exact (Kd.R_reads' HO614.out).2.1); rintro e w54 ⟨v617, rfl, ho0, hb⟩; refine ⟨_, rfl, ?_⟩; have HO618 := Aside0.mk (Kd.R_lower (Kd.R_new' (Kd.R_new' ho0 (Kd.R_lt (kr_ HO606.out))) (Kd.R_lt (kr_ HO614.out))) (below_size (bw_ HB.out))); replace HO606 := Aside0.mk (Kd.R_elder' (kr_ HO606.out) (Kd.R_base ho0) hb); replace HO614 := Aside0.mk (Kd.R_elder' (kr_ HO614.out) (Kd.R_base ho0) hb); replace BK593 := kq_ BK593 hb; replace BK594 := kq_ BK594 hb; replace BK595 := kq_ BK595 hb; replace HB := bq_ HB hb; (try clear hb); (try clear hb2); (try clear hk); (try clear hi); (try clear ho0); obtain ⟨hcz55_0, hcz55_1, hfz55_0, hfz55_1⟩ := c2_ BK595; obtain ⟨Ao56, co56, eo56⟩ := Kd.R_slice HO618.out; subst eo56))
   refine bodyPost_ret (results_cell_row rfl _ _ gb595 24 #[.bool t615, .slice Ao56 t616.length co56] (0, 0) _ rfl (by refine kb_ ?_; refine bp_ #[.bool t615, .slice none 0 0] 1 ?_; refine bp_ #[.bool false, .slice none 0 0] 0 ?_; exact BK595.out) Try.underlying24 rfl (by kernel_rfl)) rfl ?_
   exact ⟨_, rf_, by (with_reducible repeat (first | apply Kd.R_alloc | apply Kd.R_drewN | apply Kd.R_drew)); exact Kd.R_mono (Kd.R_far (p := ⟨gb595, 1, none⟩) (Kd.R_far (p := ⟨gb595, 0, none⟩) (Kd.R_types HO618.out BK595.out (by decide)) (fun _ hk => hk.2) (.bool t615)) (fun _ hk => hk.2) (.slice Ao56 t616.length co56)) (fun _ hk => trivial), bw_ HB.out⟩

/-! ### pelorusref02_Sign: function 34 -/
set_option maxHeartbeats 8000000 in
set_option maxRecDepth 100000 in
theorem pelorusref02_Sign.calls (k : Nat) (a0_0 : Bool) (A0_1 : Option Addr) (c0_1 : Nat) (l0_1 : List Int) (r : Int) (w : World) (hr0_1 : Kd.C (Kd.int .u32) w A0_1 l0_1.length l0_1) (hc0_1 : l0_1.length ≤ c0_1) (h : pelorusref02_Sign.f k a0_0 l0_1 = some r) :
  Calls Try.prog 34 #[.agg #[.bool a0_0, .slice A0_1 l0_1.length c0_1]] w fun e w' => e = .returned (.int .i64 r) ∧ Below w.heap.size w w' := by
 have hu24 := Try.underlying24
 have HR0_1 := Aside0.mk hr0_1
 have HC0_1 := Aside0.mk hc0_1
 clear hr0_1 hc0_1
 have HB := Aside0.mk (Below.refl w.heap.size w)
 have H : ((pelorusref02_Make.f k a0_0 l0_1).bind fun bt637 => (if (bt637.2.length : Int) = 0 then (some 0) else (if bt637.1 = true then (some (-1)) else (some 1)))) = some r := h
 clear h
 replace H := Option.bind_eq_some_iff.mp H
 obtain ⟨⟨t637, t638⟩, A20, H⟩ := H
 (try dsimp only at H)
 have A2 := Aside0.mk A20
 clear A20
 by_cases c3 : (t638.length : Int) = 0
 ·rw [if_pos c3] at H
  have c3b0 : ((t638.length : Int) == 0) = true := beq_iff_eq.mpr c3
  have c3b1 : ((t638.length : Int) != 0) = false := bne_eq_false_iff_eq.mpr c3
  clear c3
  obtain rfl := Option.some.inj H
  go_enter Try.func34, Try.ntmps34
  go_wp2_with (first | ((with_reducible refine gate_dst (N := 1) rfl ?_); refine bx_ 1 #[.bool a0_0, .slice A0_1 l0_1.length c0_1] 24 ?_; intro gb636 hg w4 hbox hb; have BK636 := Aside0.mk (hbox); have GW636 := ge_ hg HB; have GE636 := ge_ hg HB; replace HB := bq_ HB hb; clear hb hbox hg; obtain ⟨hcz5_0, hcz5_1, hfz5_0, hfz5_1⟩ := c2_ BK636) | ((with_reducible refine gate_callee (f := 20) rfl ?_); refine gl_ (some 8) Try.func20 #[.bool a0_0, .slice A0_1 l0_1.length c0_1] ?_; (with_reducible refine (pelorusref02_Make.calls k a0_0 _ _ l0_1 t637 t638 _ ?side1 ?side2 A2.out).mono ?_); (case side1 => exact kc_ (Kd.C_below HR0_1.out HB.out)); (case side2 => exact HC0_1.out); rintro e w6 ⟨v639, rfl, ho0, hb⟩; refine ⟨_, rfl, ?_⟩; have HO640 := Aside0.mk (Kd.R_lower ho0 (below_size (bw_ HB.out))); replace BK636 := kq_ BK636 hb; replace HB := bq_ HB hb; (try clear hb); (try clear hb2); (try clear hk); (try clear hi); (try clear ho0)) | ((with_reducible refine gate_dst (N := 3) rfl ?_); refine bx_ 3 #[.bool false, .slice none 0 0] 24 ?_; intro gb641 hg w7 hbox hb; have BK641 := Aside0.mk (hbox); have GW641 := ge_ hg HB; have GE641 := ge_ hg HB; have NB636_641 := nb_ hg BK636; have NB641_636 := nc_ hg BK636; replace HO640 := Aside0.mk (Kd.R_below (kr_ HO640.out) hb); replace BK636 := kq_ BK636 hb; replace HB := bq_ HB hb; clear hb hbox hg; have hnb8 := NB641_636.out; have hnc8 := NB636_641.out; obtain ⟨hcz9_0, hcz9_1, hfz9_0, hfz9_1⟩ := c2_ BK641; obtain ⟨Ao10, co10, eo10⟩ := Kd.R_slice HO640.out; subst eo10))
  go_ret
  exact ⟨rf_, bw_ HB.out⟩
 ·rw [if_neg c3] at H
  have c3b0 : ((t638.length : Int) == 0) = false := beq_eq_false_iff_ne.mpr c3
  have c3b1 : ((t638.length : Int) != 0) = true := bne_iff_ne.mpr c3
  have c3b2 : ¬ (t638 = []) := fun h_ => c3 (by rw [h_]; rfl)
  by_cases c11 : t637 = true
  ·subst c11
   have H1 : (some (-1)) = some r := by rw [if_pos rfl] at H; exact H
   clear H
   have H := H1
   clear H1
   obtain rfl := Option.some.inj H
   go_enter Try.func34, Try.ntmps34
   go_wp2_with (first | ((with_reducible refine gate_dst (N := 1) rfl ?_); refine bx_ 1 #[.bool a0_0, .slice A0_1 l0_1.length c0_1] 24 ?_; intro gb636 hg w12 hbox hb; have BK636 := Aside0.mk (hbox); have GW636 := ge_ hg HB; have GE636 := ge_ hg HB; replace HB := bq_ HB hb; clear hb hbox hg; obtain ⟨hcz13_0, hcz13_1, hfz13_0, hfz13_1⟩ := c2_ BK636) | ((with_reducible refine gate_callee (f := 20) rfl ?_); refine gl_ (some 8) Try.func20 #[.bool a0_0, .slice A0_1 l0_1.length c0_1] ?_; (with_reducible refine (pelorusref02_Make.calls k a0_0 _ _ l0_1 true t638 _ ?side1 ?side2 A2.out).mono ?_); (case side1 => exact kc_ (Kd.C_below HR0_1.out HB.out)); (case side2 => exact HC0_1.out); rintro e w14 ⟨v639, rfl, ho0, hb⟩; refine ⟨_, rfl, ?_⟩; have HO640 := Aside0.mk (Kd.R_lower ho0 (below_size (bw_ HB.out))); replace BK636 := kq_ BK636 hb; replace HB := bq_ HB hb; (try clear hb); (try clear hb2); (try clear hk); (try clear hi); (try clear ho0)) | ((with_reducible refine gate_dst (N := 3) rfl ?_); refine bx_ 3 #[.bool false, .slice none 0 0] 24 ?_; intro gb641 hg w15 hbox hb; have BK641 := Aside0.mk (hbox); have GW641 := ge_ hg HB; have GE641 := ge_ hg HB; have NB636_641 := nb_ hg BK636; have NB641_636 := nc_ hg BK636; replace HO640 := Aside0.mk (Kd.R_below (kr_ HO640.out) hb); replace BK636 := kq_ BK636 hb; replace HB := bq_ HB hb; clear hb hbox hg; have hnb16 := NB641_636.out; have hnc16 := NB636_641.out; obtain ⟨hcz17_0, hcz17_1, hfz17_0, hfz17_1⟩ := c2_ BK641; obtain ⟨Ao18, co18, eo18⟩ := Kd.R_slice HO640.out; subst eo18))
   go_ret
   exact ⟨rf_, bw_ HB.out⟩
  ·replace c11 := Bool.eq_false_iff.mpr c11
   subst c11
   have H1 : (some 1) = some r := by rw [if_neg (show ¬ (false = true) by decide)] at H; exact H
   clear H
   have H := H1
   clear H1
   obtain rfl := Option.some.inj H
   go_enter Try.func34, Try.ntmps34
   go_wp2_with (first | ((with_reducible refine gate_dst (N := 1) rfl ?_); refine bx_ 1 #[.bool a0_0, .slice A0_1 l0_1.length c0_1] 24 ?_; intro gb636 hg w19 hbox hb; have BK636 := Aside0.mk (hbox); have GW636 := ge_ hg HB; have GE636 := ge_ hg HB; replace HB := bq_ HB hb; clear hb hbox hg; obtain ⟨hcz20_0, hcz20_1, hfz20_0, hfz20_1⟩ := c2_ BK636) | ((with_reducible refine gate_callee (f := 20) rfl ?_); refine gl_ (some 8) Try.func20 #[.bool a0_0, .slice A0_1 l0_1.length c0_1] ?_; (with_reducible refine (pelorusref02_Make.calls k a0_0 _ _ l0_1 false t638 _ ?side1 ?side2 A2.out).mono ?_); (case side1 => exact kc_ (Kd.C_below HR0_1.out HB.out)); (case side2 => exact HC0_1.out); rintro e w21 ⟨v639, rfl, ho0, hb⟩; refine ⟨_, rfl, ?_⟩; have HO640 := Aside0.mk (Kd.R_lower ho0 (below_size (bw_ HB.out))); replace BK636 := kq_ BK636 hb; replace HB := bq_ HB hb; (try clear hb); (try clear hb2); (try clear hk); (try clear hi); (try clear ho0)) | ((with_reducible refine gate_dst (N := 3) rfl ?_); refine bx_ 3 #[.bool false, .slice none 0 0] 24 ?_; intro gb641 hg w22 hbox hb; have BK641 := Aside0.mk (hbox); have GW641 := ge_ hg HB; have GE641 := ge_ hg HB; have NB636_641 := nb_ hg BK636; have NB641_636 := nc_ hg BK636; replace HO640 := Aside0.mk (Kd.R_below (kr_ HO640.out) hb); replace BK636 := kq_ BK636 hb; replace HB := bq_ HB hb; clear hb hbox hg; have hnb23 := NB641_636.out; have hnc23 := NB636_641.out; obtain ⟨hcz24_0, hcz24_1, hfz24_0, hfz24_1⟩ := c2_ BK641; obtain ⟨Ao25, co25, eo25⟩ := Kd.R_slice HO640.out; subst eo25))
   go_ret
   exact ⟨rf_, bw_ HB.out⟩

end Go.Proofs.Ytbejmpocgnldnaa.PA
