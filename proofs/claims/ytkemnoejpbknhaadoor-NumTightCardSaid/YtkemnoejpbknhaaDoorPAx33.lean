-- Laid by this work's own program; Lean checks it.
import Derived.Test.YtkemnoejpbknhaaDoorPAx0
import Derived.Test.YtkemnoejpbknhaaDoorPAx1
import Derived.Test.YtkemnoejpbknhaaDoorPAx2
import Derived.Test.YtkemnoejpbknhaaDoorPAx5
import Derived.Test.YtkemnoejpbknhaaDoorPAx14
import Derived.Test.YtkemnoejpbknhaaDoorPAx15
import Derived.Test.YtkemnoejpbknhaaDoorPAx20
import Derived.Test.YtkemnoejpbknhaaDoorPAx23
import Derived.Test.YtkemnoejpbknhaaDoorPAx26
namespace Go.Proofs.YtkemnoejpbknhaaDoor.PA
open Go.RowKit Go.Proofs.YtkemnoejpbknhaaDoorW.PrintWords Go.Proofs.YtkemnoejpbknhaaDoorW.PrintLast Go.Proofs.YtkemnoejpbknhaaDoorW.PrintMore
attribute [local go_sem] max2_int min2_int max_two min_two max_three min_three max_four min_four   -- for this text's walks alone
set_option linter.unusedVariables false
set_option linter.unusedSimpArgs false

attribute [local go_sem ↓ high] isSome_set_
attribute [local go_sem high] eqA30
/-! ### peloruslaw05_NumTight: function 9 -/
theorem peloruslaw05_NumTight.tab11 : rtab .any (opsOf Tryd.f9 11) = peloruslaw05_NumTight.T11 := by kernel_rfl
theorem peloruslaw05_NumTight.bits11 : waitsOk peloruslaw05_NumTight.T11.2 peloruslaw05_NumTight.B11 = true := by kernel_rfl
set_option maxHeartbeats 8000000 in
set_option maxRecDepth 100000 in
theorem peloruslaw05_NumTight.calls (k : Nat) (a0_0 : Bool) (A0_1 : Option Addr) (c0_1 : Nat) (l0_1 : List Int) (a0_2 : Int) (r : Bool) (w : World) (hr0_1 : Kd.C (Kd.int .u32) w A0_1 l0_1.length l0_1) (hc0_1 : l0_1.length ≤ c0_1) (hr_ : r = true) (haw_ : ∀ r, peloruslaw05_awake.f k = some r → r = true) (h : peloruslaw05_NumTight.f k a0_0 l0_1 a0_2 = some r) (htab_ : Kd.C (Kd.int .u8) w (some ⟨0, 0, none⟩) 32 tz32tab) :
  Calls Tryd.prog 9 #[.agg #[.bool a0_0, .slice A0_1 l0_1.length c0_1, .int .i64 a0_2]] w fun e w' => e = .returned (.bool r) ∧ Below w.heap.size w w' := by
 have HTAB := Aside0.mk htab_
 clear htab_
 have HRT_ := Aside0.mk hr_
 clear hr_
 have HAW_ := Aside0.mk haw_
 clear haw_
 have hu26 := Tryd.underlying26
 have hu30 := Tryd.underlying30
 have HR0_1 := Aside0.mk hr0_1
 have HC0_1 := Aside0.mk hc0_1
 clear hr0_1 hc0_1
 have HB := Aside0.mk (Below.refl w.heap.size w)
 have H : ((peloruslaw05_awake.f k).bind fun t1121 => ((peloruslaw03_Few.f a0_0 l0_1 a0_2).bind fun t1122 => (if t1121 = true then (peloruslaw05_NumTight.j0 k t1121 (!t1122) a0_0 l0_1 a0_2) else (peloruslaw05_NumTight.j0 k t1121 true a0_0 l0_1 a0_2)))) = some r := h
 clear h
 replace H := Option.bind_eq_some_iff.mp H
 obtain ⟨t1121, A20, H⟩ := H
 (try dsimp only at H)
 have A2 := Aside0.mk A20
 clear A20
 replace H := Option.bind_eq_some_iff.mp H
 obtain ⟨t1122, A30, H⟩ := H
 (try dsimp only at H)
 have A3 := Aside0.mk A30
 clear A30
 have HC4 := Aside0.mk H
 clear H
 go_enter Tryd.func9, Tryd.ntmps9
 go_upto_region 3 with (first | ((with_reducible refine gate_dst (N := 1) rfl ?_); refine bx_ 1 #[.bool a0_0, .slice A0_1 l0_1.length c0_1, .int .i64 a0_2] 26 ?_; intro gb1120 hg w5 hbox hb; have BK1120 := Aside0.mk (hbox); have GW1120 := ge_ hg HB; have GE1120 := ge_ hg HB; replace HB := bq_ HB hb; clear hb hbox hg) | ((with_reducible refine gate_callee (f := 11) rfl ?_); refine gl_ (some 11) Tryd.func11 #[] ?_; (with_reducible refine (peloruslaw05_awake.calls k  t1121 _ (HAW_.out _ A2.out) A2.out ?sidet).mono ?_); (case sidet => exact Kd.C_below HTAB.out (bw_ HB.out)); rintro e w6 ⟨rfl, hb⟩; refine ⟨_, rfl, ?_⟩; replace BK1120 := kq_ BK1120 hb; replace HB := bq_ HB hb; (try clear hb); (try clear hb2); (try clear hk); (try clear hi); obtain ⟨hcz7_0, hcz7_1, hcz7_2, hfz7_0, hfz7_1, hfz7_2⟩ := c3_ BK1120) | ((with_reducible refine gate_callee (f := 35) rfl ?_); refine gl_ (some 13) Tryd.func35 #[.agg #[.bool a0_0, .slice A0_1 l0_1.length c0_1, .int .i64 a0_2]] ?_; (with_reducible refine (peloruslaw03_Few.calls a0_0 _ _ l0_1 a0_2 t1122 _ ?side1 ?side2 A3.out).mono ?_); (case side1 => exact kc_ (Kd.C_below HR0_1.out HB.out)); (case side2 => exact HC0_1.out); rintro e w8 ⟨rfl, hb⟩; refine ⟨_, rfl, ?_⟩; replace BK1120 := kq_ BK1120 hb; replace HB := bq_ HB hb; (try clear hb); (try clear hb2); (try clear hk); (try clear hi)))
 (try simp only [Act.put, List.setIfInBounds_toArray, List.set_cons_zero, List.set_cons_succ])
 go_cut [19] (fun v19 wc => ∃ (kq : Nat) (x19_3 : Bool), v19 = .bool x19_3 ∧ Aside0 (peloruslaw05_NumTight.j0 kq t1121 x19_3 a0_0 l0_1 a0_2 = some r) ∧ Aside0 (kq ≤ k) ∧ Aside0 (wc.heap[gb1120]? = some (.cells #[.bool a0_0, (.slice A0_1 l0_1.length c0_1), .int .i64 a0_2] 26 (0, 0))) ∧ Aside0 (Below w.heap.size w wc))
 case first =>
  have H := HC4.out
  clear HC4
  by_cases c9 : t1121 = true
  ·subst c9
   have H1 : (peloruslaw05_NumTight.j0 k true (!t1122) a0_0 l0_1 a0_2) = some r := by rw [if_pos rfl] at H; exact H
   clear H
   have H := H1
   clear H1
   have H' := Aside0.mk H
   clear H
   go_wp2
   go_meet
   case rel => exact ⟨_, (!t1122), (by first | rfl | (simp; done) | (simp [*]; done)), H', ⟨by first | omega | exact Nat.le_refl _⟩, ⟨kb_ BK1120.out⟩, ⟨bw_ HB.out⟩⟩
  ·replace c9 := Bool.eq_false_iff.mpr c9
   subst c9
   have H1 : (peloruslaw05_NumTight.j0 k false true a0_0 l0_1 a0_2) = some r := by rw [if_neg (show ¬ (false = true) by decide)] at H; exact H
   clear H
   have H := H1
   clear H1
   have H' := Aside0.mk H
   clear H
   go_wp2
   go_meet
   case rel => exact ⟨_, (true), (by first | rfl | (simp; done) | (simp [*]; done)), H', ⟨by first | omega | exact Nat.le_refl _⟩, ⟨kb_ BK1120.out⟩, ⟨bw_ HB.out⟩⟩
 case rest =>
  clear HC4
  try clear c1
  try clear p2
  try clear c3
  try clear c9
  try clear hcz7_0 hcz7_1 hcz7_2
  try clear hfz7_0 hfz7_1 hfz7_2
  obtain ⟨kq, x19_3, rfl, HA, HJ3, BK1120, HB⟩ := hcut
  cases kq with
  | zero => exact absurd HA.out (by simp [peloruslaw05_NumTight.j0])
  | succ kj3 =>
   have H := HA.out
   clear HA
   simp only [peloruslaw05_NumTight.j0] at H
   by_cases c10 : x19_3 = true
   ·subst c10
    have H1 : (some t1121) = some r := by rw [if_pos rfl] at H; exact H
    clear H
    have H := H1
    clear H1
    obtain rfl := Option.some.inj H
    go_wp2
    go_ret
    exact ⟨rf_, bw_ HB.out⟩
   ·replace c10 := Bool.eq_false_iff.mpr c10
    subst c10
    have H1 : ((num_Round.f kj3 a0_0 l0_1 a0_2 false).bind fun bt1123 => ((num_Round.f kj3 a0_0 l0_1 a0_2 true).bind fun bt1128 => ((num_Exact.f kj3 bt1123.1 bt1123.2.1 bt1123.2.2.1 bt1123.2.2.2).bind fun bt1133 => ((num_Exact.f kj3 bt1128.1 bt1128.2.1 bt1128.2.2.1 bt1128.2.2.2).bind fun bt1140 => (if bt1133.2.2.2 = true then (if bt1140.2.2.2 = true then ((dy_Cmp.f kj3 bt1133.1 bt1133.2.1 bt1133.2.2.1 a0_0 l0_1 a0_2).bind fun t1147 => (if t1147 > 0 then (peloruslaw05_NumTight.j1 kj3 true a0_0 l0_1 a0_2 bt1123.1 bt1123.2.1 bt1123.2.2.1 bt1123.2.2.2 bt1128.1 bt1128.2.1 bt1128.2.2.1 bt1128.2.2.2 bt1133.1 bt1133.2.1 bt1133.2.2.1 bt1140.1 bt1140.2.1 bt1140.2.2.1) else ((dy_Cmp.f kj3 bt1140.1 bt1140.2.1 bt1140.2.2.1 a0_0 l0_1 a0_2).bind fun t1148 => (peloruslaw05_NumTight.j1 kj3 (decide (t1148 < 0)) a0_0 l0_1 a0_2 bt1123.1 bt1123.2.1 bt1123.2.2.1 bt1123.2.2.2 bt1128.1 bt1128.2.1 bt1128.2.2.1 bt1128.2.2.2 bt1133.1 bt1133.2.1 bt1133.2.2.1 bt1140.1 bt1140.2.1 bt1140.2.2.1)))) else (peloruslaw05_NumTight.j1 kj3 true a0_0 l0_1 a0_2 bt1123.1 bt1123.2.1 bt1123.2.2.1 bt1123.2.2.2 bt1128.1 bt1128.2.1 bt1128.2.2.1 bt1128.2.2.2 bt1133.1 bt1133.2.1 bt1133.2.2.1 bt1140.1 bt1140.2.1 bt1140.2.2.1)) else (peloruslaw05_NumTight.j1 kj3 true a0_0 l0_1 a0_2 bt1123.1 bt1123.2.1 bt1123.2.2.1 bt1123.2.2.2 bt1128.1 bt1128.2.1 bt1128.2.2.1 bt1128.2.2.2 bt1133.1 bt1133.2.1 bt1133.2.2.1 bt1140.1 bt1140.2.1 bt1140.2.2.1)))))) = some r := by rw [if_neg (show ¬ (false = true) by decide)] at H; exact H
    clear H
    have H := H1
    clear H1
    replace H := Option.bind_eq_some_iff.mp H
    obtain ⟨⟨t1123, t1124, t1125, t1126⟩, A110, H⟩ := H
    (try dsimp only at H)
    have A11 := Aside0.mk A110
    clear A110
    replace H := Option.bind_eq_some_iff.mp H
    obtain ⟨⟨t1128, t1129, t1130, t1131⟩, A120, H⟩ := H
    (try dsimp only at H)
    have A12 := Aside0.mk A120
    clear A120
    replace H := Option.bind_eq_some_iff.mp H
    obtain ⟨⟨t1133, t1134, t1137, t1138⟩, A130, H⟩ := H
    (try dsimp only at H)
    have A13 := Aside0.mk A130
    clear A130
    replace H := Option.bind_eq_some_iff.mp H
    obtain ⟨⟨t1140, t1141, t1144, t1145⟩, A140, H⟩ := H
    (try dsimp only at H)
    have A14 := Aside0.mk A140
    clear A140
    have HC15 := Aside0.mk H
    clear H
    obtain ⟨hcz16_0, hcz16_1, hcz16_2, hfz16_0, hfz16_1, hfz16_2⟩ := c3_ BK1120
    go_upto_region 9 with (first | ((with_reducible refine gate_callee (f := 12) rfl ?_); refine gl_ (some 22) Tryd.func12 #[.agg #[.bool a0_0, .slice A0_1 l0_1.length c0_1, .int .i64 a0_2], .bool false] ?_; (with_reducible refine (num_Round.calls kj3 a0_0 _ _ l0_1 a0_2 false t1123 t1124 t1125 t1126 _ ?side1 ?side2 A11.out ?sidet).mono ?_); (case sidet => exact Kd.C_below HTAB.out (bw_ HB.out)); (case side1 => exact kc_ (Kd.C_below HR0_1.out HB.out)); (case side2 => exact HC0_1.out); rintro e w17 ⟨rfl, hb⟩; refine ⟨_, rfl, ?_⟩; replace BK1120 := kq_ BK1120 hb; replace HB := bq_ HB hb; (try clear hb); (try clear hb2); (try clear hk); (try clear hi)) | ((with_reducible refine gate_dst (N := 5) rfl ?_); refine bx_ 5 #[.int .i64 0, .bool false, .int .u64 0, .int .i64 0] 30 ?_; intro gb1127 hg w18 hbox hb; have BK1127 := Aside0.mk (hbox); have GW1127 := ge_ hg HB; have GE1127 := ge_ hg HB; have NB1120_1127 := nb_ hg BK1120; have NB1127_1120 := nc_ hg BK1120; replace BK1120 := kq_ BK1120 hb; replace HB := bq_ HB hb; clear hb hbox hg; have hnb19 := NB1127_1120.out; have hnc19 := NB1120_1127.out; obtain ⟨hcz20_0, hcz20_1, hcz20_2, hcz20_3, hfz20_0, hfz20_1, hfz20_2, hfz20_3⟩ := c4_ BK1127; obtain ⟨hcz21_0, hcz21_1, hcz21_2, hfz21_0, hfz21_1, hfz21_2⟩ := c3_ BK1120) | ((with_reducible refine gate_callee (f := 12) rfl ?_); refine gl_ (some 24) Tryd.func12 #[.agg #[.bool a0_0, .slice A0_1 l0_1.length c0_1, .int .i64 a0_2], .bool true] ?_; (with_reducible refine (num_Round.calls kj3 a0_0 _ _ l0_1 a0_2 true t1128 t1129 t1130 t1131 _ ?side1 ?side2 A12.out ?sidet).mono ?_); (case sidet => exact Kd.C_below HTAB.out (bw_ HB.out)); (case side1 => exact Kd.C_below HR0_1.out (bw_ HB.out)); (case side2 => exact HC0_1.out); rintro e w22 ⟨rfl, hb⟩; refine ⟨_, rfl, ?_⟩; have n0_ := Aside0.mk (blk_below (g := gb1120) (o := .cells #[.bool a0_0, .slice A0_1 l0_1.length c0_1, .int .i64 a0_2] 26 (0, 0)) (by refine kb_ ?_; refine bf_ NB1120_1127 ?_; refine bf_ NB1120_1127 ?_; refine bf_ NB1120_1127 ?_; refine bf_ NB1120_1127 ?_; exact BK1120.out) hb); have n1_ := Aside0.mk (blk_below (g := gb1127) (o := .cells #[.int .i64 t1123, .bool t1124, .int .u64 t1125, .int .i64 t1126] 30 (0, 0)) (by refine kb_ ?_; refine bp_ #[.int .i64 t1123, .bool t1124, .int .u64 t1125, .int .i64 0] 3 ?_; refine bp_ #[.int .i64 t1123, .bool t1124, .int .u64 0, .int .i64 0] 2 ?_; refine bp_ #[.int .i64 t1123, .bool false, .int .u64 0, .int .i64 0] 1 ?_; refine bp_ #[.int .i64 0, .bool false, .int .u64 0, .int .i64 0] 0 ?_; exact BK1127.out) hb); have n2_ := bq_ HB hb; clear BK1120; clear BK1127; clear HB; have BK1120 := n0_; have BK1127 := n1_; have HB := n2_; clear n0_ n1_ n2_; (try clear hb); (try clear hb2); (try clear hk); (try clear hi)) | ((with_reducible refine gate_dst (N := 6) rfl ?_); refine bx_ 6 #[.int .i64 0, .bool false, .int .u64 0, .int .i64 0] 30 ?_; intro gb1132 hg w23 hbox hb; have BK1132 := Aside0.mk (hbox); have GW1132 := ge_ hg HB; have GE1132 := ge_ hg HB; have NB1120_1132 := nb_ hg BK1120; have NB1132_1120 := nc_ hg BK1120; have NB1127_1132 := nb_ hg BK1127; have NB1132_1127 := nc_ hg BK1127; replace BK1120 := kq_ BK1120 hb; replace BK1127 := kq_ BK1127 hb; replace HB := bq_ HB hb; clear hb hbox hg; have hnb24 := NB1132_1120.out; have hnc24 := NB1120_1132.out; have hnb25 := NB1132_1127.out; have hnc25 := NB1127_1132.out; obtain ⟨hcz26_0, hcz26_1, hcz26_2, hcz26_3, hfz26_0, hfz26_1, hfz26_2, hfz26_3⟩ := c4_ BK1132; obtain ⟨hcz27_0, hcz27_1, hcz27_2, hcz27_3, hfz27_0, hfz27_1, hfz27_2, hfz27_3⟩ := c4_ BK1127) | ((with_reducible refine gate_callee (f := 25) rfl ?_); refine gl_ (some 27) Tryd.func25 #[.agg #[.int .i64 t1123, .bool t1124, .int .u64 t1125, .int .i64 t1126]] ?_; (with_reducible refine (num_Exact.calls kj3 t1123 t1124 t1125 t1126 t1133 t1134 t1137 t1138 _ A13.out ?sidet).mono ?_); (case sidet => exact Kd.C_below HTAB.out (bw_ HB.out)); rintro e w28 ⟨v1135, rfl, ho0, hb⟩; refine ⟨_, rfl, ?_⟩; have n0_ := Aside0.mk (Kd.R_lower ho0 (below_size (bw_ HB.out))); have n1_ := Aside0.mk (blk_below (g := gb1120) (o := .cells #[.bool a0_0, .slice A0_1 l0_1.length c0_1, .int .i64 a0_2] 26 (0, 0)) (by refine kb_ ?_; refine bf_ NB1120_1132 ?_; refine bf_ NB1120_1132 ?_; refine bf_ NB1120_1132 ?_; refine bf_ NB1120_1132 ?_; exact BK1120.out) hb); have n2_ := Aside0.mk (blk_below (g := gb1127) (o := .cells #[.int .i64 t1123, .bool t1124, .int .u64 t1125, .int .i64 t1126] 30 (0, 0)) (by refine kb_ ?_; refine bf_ NB1127_1132 ?_; refine bf_ NB1127_1132 ?_; refine bf_ NB1127_1132 ?_; refine bf_ NB1127_1132 ?_; exact BK1127.out) hb); have n3_ := Aside0.mk (blk_below (g := gb1132) (o := .cells #[.int .i64 t1128, .bool t1129, .int .u64 t1130, .int .i64 t1131] 30 (0, 0)) (by refine kb_ ?_; refine bp_ #[.int .i64 t1128, .bool t1129, .int .u64 t1130, .int .i64 0] 3 ?_; refine bp_ #[.int .i64 t1128, .bool t1129, .int .u64 0, .int .i64 0] 2 ?_; refine bp_ #[.int .i64 t1128, .bool false, .int .u64 0, .int .i64 0] 1 ?_; refine bp_ #[.int .i64 0, .bool false, .int .u64 0, .int .i64 0] 0 ?_; exact BK1132.out) hb); have n4_ := bq_ HB hb; clear BK1120; clear BK1127; clear BK1132; clear HB; have HO1136 := n0_; have BK1120 := n1_; have BK1127 := n2_; have BK1132 := n3_; have HB := n4_; clear n0_ n1_ n2_ n3_ n4_; (try clear hb); (try clear hb2); (try clear hk); (try clear hi); (try clear ho0)) | ((with_reducible refine gate_dst (N := 7) rfl ?_); refine bx_ 7 #[.bool false, .slice none 0 0, .int .i64 0] 26 ?_; intro gb1139 hg w29 hbox hb; have BK1139 := Aside0.mk (hbox); have GW1139 := ge_ hg HB; have GE1139 := ge_ hg HB; have NB1120_1139 := nb_ hg BK1120; have NB1139_1120 := nc_ hg BK1120; have NB1127_1139 := nb_ hg BK1127; have NB1139_1127 := nc_ hg BK1127; have NB1132_1139 := nb_ hg BK1132; have NB1139_1132 := nc_ hg BK1132; replace HO1136 := Aside0.mk (Kd.R_below (kr_ HO1136.out) hb); replace BK1120 := kq_ BK1120 hb; replace BK1127 := kq_ BK1127 hb; replace BK1132 := kq_ BK1132 hb; replace HB := bq_ HB hb; clear hb hbox hg; have hnb30 := NB1139_1120.out; have hnc30 := NB1120_1139.out; have hnb31 := NB1139_1127.out; have hnc31 := NB1127_1139.out; have hnb32 := NB1139_1132.out; have hnc32 := NB1132_1139.out; obtain ⟨hcz33_0, hcz33_1, hcz33_2, hfz33_0, hfz33_1, hfz33_2⟩ := c3_ BK1139; obtain ⟨Ao34, co34, eo34⟩ := Kd.R_slice HO1136.out; subst eo34; obtain ⟨hcz35_0, hcz35_1, hcz35_2, hcz35_3, hfz35_0, hfz35_1, hfz35_2, hfz35_3⟩ := c4_ BK1132) | ((with_reducible refine gate_callee (f := 25) rfl ?_); refine gl_ (some 32) Tryd.func25 #[.agg #[.int .i64 t1128, .bool t1129, .int .u64 t1130, .int .i64 t1131]] ?_; (with_reducible refine (num_Exact.calls kj3 t1128 t1129 t1130 t1131 t1140 t1141 t1144 t1145 _ A14.out ?sidet).mono ?_); (case sidet => exact Kd.C_below HTAB.out (bw_ HB.out)); rintro e w36 ⟨v1142, rfl, ho0, hb⟩; refine ⟨_, rfl, ?_⟩; have n0_ := Aside0.mk (Kd.R_elder' (kr_ ((Kd.R_mono (Kd.R_far (p := ⟨gb1139, 2, none⟩) (Kd.R_far (p := ⟨gb1139, 1, none⟩) (Kd.R_far (p := ⟨gb1139, 0, none⟩) (Kd.R_types HO1136.out BK1139.out (by decide)) (fun _ hk => hk.2) (.bool t1133)) (fun _ hk => hk.2) (.slice Ao34 t1134.length co34)) (fun _ hk => hk.2) (.int .i64 t1137)) (fun _ h_ => h_.1)))) (Kd.R_base ho0) hb); have n1_ := Aside0.mk (Kd.R_lower (Kd.R_new' ho0 (Kd.R_lt (kr_ ((Kd.R_mono (Kd.R_far (p := ⟨gb1139, 2, none⟩) (Kd.R_far (p := ⟨gb1139, 1, none⟩) (Kd.R_far (p := ⟨gb1139, 0, none⟩) (Kd.R_types HO1136.out BK1139.out (by decide)) (fun _ hk => hk.2) (.bool t1133)) (fun _ hk => hk.2) (.slice Ao34 t1134.length co34)) (fun _ hk => hk.2) (.int .i64 t1137)) (fun _ h_ => h_.1)))))) (below_size (bw_ HB.out))); have n2_ := Aside0.mk (blk_below (g := gb1120) (o := .cells #[.bool a0_0, .slice A0_1 l0_1.length c0_1, .int .i64 a0_2] 26 (0, 0)) (by refine kb_ ?_; refine bf_ NB1120_1139 ?_; refine bf_ NB1120_1139 ?_; refine bf_ NB1120_1139 ?_; exact BK1120.out) hb); have n3_ := Aside0.mk (blk_below (g := gb1127) (o := .cells #[.int .i64 t1123, .bool t1124, .int .u64 t1125, .int .i64 t1126] 30 (0, 0)) (by refine kb_ ?_; refine bf_ NB1127_1139 ?_; refine bf_ NB1127_1139 ?_; refine bf_ NB1127_1139 ?_; exact BK1127.out) hb); have n4_ := Aside0.mk (blk_below (g := gb1132) (o := .cells #[.int .i64 t1128, .bool t1129, .int .u64 t1130, .int .i64 t1131] 30 (0, 0)) (by refine kb_ ?_; refine bf_ NB1132_1139 ?_; refine bf_ NB1132_1139 ?_; refine bf_ NB1132_1139 ?_; exact BK1132.out) hb); have n5_ := Aside0.mk (blk_below (g := gb1139) (o := .cells #[.bool t1133, .slice Ao34 t1134.length co34, .int .i64 t1137] 26 (0, 0)) (by refine kb_ ?_; refine bp_ #[.bool t1133, .slice Ao34 t1134.length co34, .int .i64 0] 2 ?_; refine bp_ #[.bool t1133, .slice none 0 0, .int .i64 0] 1 ?_; refine bp_ #[.bool false, .slice none 0 0, .int .i64 0] 0 ?_; exact BK1139.out) hb); have n6_ := bq_ HB hb; clear HO1136; clear BK1120; clear BK1127; clear BK1132; clear BK1139; clear HB; have HO1136 := n0_; have HO1143 := n1_; have BK1120 := n2_; have BK1127 := n3_; have BK1132 := n4_; have BK1139 := n5_; have HB := n6_; clear n0_ n1_ n2_ n3_ n4_ n5_ n6_; (try clear hb); (try clear hb2); (try clear hk); (try clear hi); (try clear ho0)) | ((with_reducible refine gate_dst (N := 9) rfl ?_); refine bx_ 9 #[.bool false, .slice none 0 0, .int .i64 0] 26 ?_; intro gb1146 hg w37 hbox hb; have BK1146 := Aside0.mk (hbox); have GW1146 := ge_ hg HB; have GE1146 := ge_ hg HB; have NB1120_1146 := nb_ hg BK1120; have NB1146_1120 := nc_ hg BK1120; have NB1127_1146 := nb_ hg BK1127; have NB1146_1127 := nc_ hg BK1127; have NB1132_1146 := nb_ hg BK1132; have NB1146_1132 := nc_ hg BK1132; have NB1139_1146 := nb_ hg BK1139; have NB1146_1139 := nc_ hg BK1139; replace HO1136 := Aside0.mk (Kd.R_below (kr_ HO1136.out) hb); replace HO1143 := Aside0.mk (Kd.R_below (kr_ HO1143.out) hb); replace BK1120 := kq_ BK1120 hb; replace BK1127 := kq_ BK1127 hb; replace BK1132 := kq_ BK1132 hb; replace BK1139 := kq_ BK1139 hb; replace HB := bq_ HB hb; clear hb hbox hg; have hnb38 := NB1146_1120.out; have hnc38 := NB1120_1146.out; have hnb39 := NB1146_1127.out; have hnc39 := NB1127_1146.out; have hnb40 := NB1146_1132.out; have hnc40 := NB1132_1146.out; have hnb41 := NB1146_1139.out; have hnc41 := NB1139_1146.out; obtain ⟨hcz42_0, hcz42_1, hcz42_2, hfz42_0, hfz42_1, hfz42_2⟩ := c3_ BK1146; obtain ⟨Ao43, co43, eo43⟩ := Kd.R_slice HO1143.out; subst eo43))
    (try simp only [Act.put, List.setIfInBounds_toArray, List.set_cons_zero, List.set_cons_succ])
    go_cut [52] (fun v52 wc => ∃ (kq : Nat) (x52_14 : Bool), v52 = .bool x52_14 ∧ Aside0 (peloruslaw05_NumTight.j1 kq x52_14 a0_0 l0_1 a0_2 t1123 t1124 t1125 t1126 t1128 t1129 t1130 t1131 t1133 t1134 t1137 t1140 t1141 t1144 = some r) ∧ Aside0 (kq ≤ kj3) ∧ Aside0 (Kd.R (Kd.int .u32) 53 wc w.heap.size (fun k_ => some k_ ≠ ((.slice Ao43 t1141.length co43) : Value).ownBlock) (.slice Ao34 t1134.length co34) t1134) ∧ Aside0 (Kd.R (Kd.int .u32) 53 wc w.heap.size (fun k_ => some k_ ≠ ((.slice Ao34 t1134.length co34) : Value).ownBlock) (.slice Ao43 t1141.length co43) t1141) ∧ Aside0 (wc.heap[gb1120]? = some (.cells #[.bool a0_0, (.slice A0_1 l0_1.length c0_1), .int .i64 a0_2] 26 (0, 0))) ∧ Aside0 (wc.heap[gb1127]? = some (.cells #[.int .i64 t1123, .bool t1124, .int .u64 t1125, .int .i64 t1126] 30 (0, 0))) ∧ Aside0 (wc.heap[gb1132]? = some (.cells #[.int .i64 t1128, .bool t1129, .int .u64 t1130, .int .i64 t1131] 30 (0, 0))) ∧ Aside0 (wc.heap[gb1139]? = some (.cells #[.bool t1133, (.slice Ao34 t1134.length co34), .int .i64 t1137] 26 (0, 0))) ∧ Aside0 (wc.heap[gb1146]? = some (.cells #[.bool t1140, (.slice Ao43 t1141.length co43), .int .i64 t1144] 26 (0, 0))) ∧ Aside0 (Below w.heap.size w wc))
    case first =>
     have H := HC15.out
     clear HC15
     by_cases c44 : t1138 = true
     ·subst c44
      have H1 : (if t1145 = true then ((dy_Cmp.f kj3 t1133 t1134 t1137 a0_0 l0_1 a0_2).bind fun t1147 => (if t1147 > 0 then (peloruslaw05_NumTight.j1 kj3 true a0_0 l0_1 a0_2 t1123 t1124 t1125 t1126 t1128 t1129 t1130 t1131 t1133 t1134 t1137 t1140 t1141 t1144) else ((dy_Cmp.f kj3 t1140 t1141 t1144 a0_0 l0_1 a0_2).bind fun t1148 => (peloruslaw05_NumTight.j1 kj3 (decide (t1148 < 0)) a0_0 l0_1 a0_2 t1123 t1124 t1125 t1126 t1128 t1129 t1130 t1131 t1133 t1134 t1137 t1140 t1141 t1144)))) else (peloruslaw05_NumTight.j1 kj3 true a0_0 l0_1 a0_2 t1123 t1124 t1125 t1126 t1128 t1129 t1130 t1131 t1133 t1134 t1137 t1140 t1141 t1144)) = some r := by rw [if_pos rfl] at H; exact H
      clear H
      have H := H1
      clear H1
      by_cases c45 : t1145 = true
      ·subst c45
       have H1 : ((dy_Cmp.f kj3 t1133 t1134 t1137 a0_0 l0_1 a0_2).bind fun t1147 => (if t1147 > 0 then (peloruslaw05_NumTight.j1 kj3 true a0_0 l0_1 a0_2 t1123 t1124 t1125 t1126 t1128 t1129 t1130 t1131 t1133 t1134 t1137 t1140 t1141 t1144) else ((dy_Cmp.f kj3 t1140 t1141 t1144 a0_0 l0_1 a0_2).bind fun t1148 => (peloruslaw05_NumTight.j1 kj3 (decide (t1148 < 0)) a0_0 l0_1 a0_2 t1123 t1124 t1125 t1126 t1128 t1129 t1130 t1131 t1133 t1134 t1137 t1140 t1141 t1144)))) = some r := by rw [if_pos rfl] at H; exact H
       clear H
       have H := H1
       clear H1
       replace H := Option.bind_eq_some_iff.mp H
       obtain ⟨t1147, A460, H⟩ := H
       (try dsimp only at H)
       have A46 := Aside0.mk A460
       clear A460
       by_cases c47 : t1147 > 0
       ·rw [if_pos c47] at H
        have c47b0 : decide (0 < t1147) = true := decide_eq_true c47
        clear c47
        (first | rw [c47b0] | (simp only [i64_w, i32_w]; rw [c47b0]) | skip)
        have H' := Aside0.mk H
        clear H
        have hnb48 := NB1139_1120.out
        have hnc48 := NB1120_1139.out
        have hnb49 := NB1139_1127.out
        have hnc49 := NB1127_1139.out
        have hnb50 := NB1139_1132.out
        have hnc50 := NB1132_1139.out
        have hnb51 := NB1139_1146.out
        have hnc51 := NB1146_1139.out
        obtain ⟨hcz52_0, hcz52_1, hcz52_2, hfz52_0, hfz52_1, hfz52_2⟩ := c3_ BK1139
        have hnb53 := NB1120_1127.out
        have hnc53 := NB1127_1120.out
        have hnb54 := NB1120_1132.out
        have hnc54 := NB1132_1120.out
        have hnb55 := NB1120_1146.out
        have hnc55 := NB1146_1120.out
        obtain ⟨hcz56_0, hcz56_1, hcz56_2, hfz56_0, hfz56_1, hfz56_2⟩ := c3_ BK1120
        go_wp2_with (first | (go_at_call 36; (with_reducible refine (dy_Cmp.calls kj3 t1133 _ _ t1134 t1137 a0_0 _ _ l0_1 a0_2 t1147 _ ?side1 ?side2 ?side3 ?side4 A46.out ?sidet).mono ?_); (case sidet => exact Kd.C_below HTAB.out (bw_ HB.out)); (case side1 => refine (Kd.R_reads' (e := 53) (base := w.heap.size) (ok := fun k_ => (True ∧ some k_ ≠ (.slice Ao43 t1141.length co43 : Value).ownBlock)) (n := t1134.length) (c := co34) ?_).2.2; exact (kr_ ((Kd.R_mono (Kd.R_far (p := ⟨gb1146, 2, none⟩) (Kd.R_far (p := ⟨gb1146, 1, none⟩) (Kd.R_far (p := ⟨gb1146, 0, none⟩) (Kd.R_types HO1136.out BK1146.out (by decide)) (fun _ hk => hk.2) (.bool t1140)) (fun _ hk => hk.2) (.slice Ao43 t1141.length co43)) (fun _ hk => hk.2) (.int .i64 t1144)) (fun _ h_ => h_.1))))); (case side2 => exact (Kd.R_reads' HO1136.out).2.1); (case side3 => exact Kd.C_below HR0_1.out (bw_ HB.out)); (case side4 => exact HC0_1.out); rintro e w57 ⟨rfl, hb⟩; have n0_ := Aside0.mk (Kd.R_below (kr_ ((Kd.R_mono (Kd.R_far (p := ⟨gb1146, 2, none⟩) (Kd.R_far (p := ⟨gb1146, 1, none⟩) (Kd.R_far (p := ⟨gb1146, 0, none⟩) (Kd.R_types HO1136.out BK1146.out (by decide)) (fun _ hk => hk.2) (.bool t1140)) (fun _ hk => hk.2) (.slice Ao43 t1141.length co43)) (fun _ hk => hk.2) (.int .i64 t1144)) (fun _ h_ => h_.1)))) hb); have n1_ := Aside0.mk (Kd.R_below (kr_ ((Kd.R_mono (Kd.R_far (p := ⟨gb1146, 2, none⟩) (Kd.R_far (p := ⟨gb1146, 1, none⟩) (Kd.R_far (p := ⟨gb1146, 0, none⟩) (Kd.R_types HO1143.out BK1146.out (by decide)) (fun _ hk => hk.2) (.bool t1140)) (fun _ hk => hk.2) (.slice Ao43 t1141.length co43)) (fun _ hk => hk.2) (.int .i64 t1144)) (fun _ h_ => h_.1)))) hb); have n2_ := Aside0.mk (blk_below (g := gb1120) (o := .cells #[.bool a0_0, .slice A0_1 l0_1.length c0_1, .int .i64 a0_2] 26 (0, 0)) (by refine kb_ ?_; refine bf_ NB1120_1146 ?_; refine bf_ NB1120_1146 ?_; refine bf_ NB1120_1146 ?_; exact BK1120.out) hb); have n3_ := Aside0.mk (blk_below (g := gb1127) (o := .cells #[.int .i64 t1123, .bool t1124, .int .u64 t1125, .int .i64 t1126] 30 (0, 0)) (by refine kb_ ?_; refine bf_ NB1127_1146 ?_; refine bf_ NB1127_1146 ?_; refine bf_ NB1127_1146 ?_; exact BK1127.out) hb); have n4_ := Aside0.mk (blk_below (g := gb1132) (o := .cells #[.int .i64 t1128, .bool t1129, .int .u64 t1130, .int .i64 t1131] 30 (0, 0)) (by refine kb_ ?_; refine bf_ NB1132_1146 ?_; refine bf_ NB1132_1146 ?_; refine bf_ NB1132_1146 ?_; exact BK1132.out) hb); have n5_ := Aside0.mk (blk_below (g := gb1139) (o := .cells #[.bool t1133, .slice Ao34 t1134.length co34, .int .i64 t1137] 26 (0, 0)) (by refine kb_ ?_; refine bf_ NB1139_1146 ?_; refine bf_ NB1139_1146 ?_; refine bf_ NB1139_1146 ?_; exact BK1139.out) hb); have n6_ := Aside0.mk (blk_below (g := gb1146) (o := .cells #[.bool t1140, .slice Ao43 t1141.length co43, .int .i64 t1144] 26 (0, 0)) (by refine kb_ ?_; refine bp_ #[.bool t1140, .slice Ao43 t1141.length co43, .int .i64 0] 2 ?_; refine bp_ #[.bool t1140, .slice none 0 0, .int .i64 0] 1 ?_; refine bp_ #[.bool false, .slice none 0 0, .int .i64 0] 0 ?_; exact BK1146.out) hb); have n7_ := bq_ HB hb; clear HO1136; clear HO1143; clear BK1120; clear BK1127; clear BK1132; clear BK1139; clear BK1146; clear HB; have HO1136 := n0_; have HO1143 := n1_; have BK1120 := n2_; have BK1127 := n3_; have BK1132 := n4_; have BK1139 := n5_; have BK1146 := n6_; have HB := n7_; clear n0_ n1_ n2_ n3_ n4_ n5_ n6_ n7_; (try clear hb); (try clear hb2); (try clear hk); (try clear hi)))
        go_meet
        case rel => exact ⟨_, (true), (by first | rfl | (simp; done) | (simp [*]; done)), H', ⟨by have := HJ3.out; first | omega | exact Nat.le_refl _⟩, ⟨by (with_reducible repeat (first | apply Kd.R_alloc | apply Kd.R_drewN | apply Kd.R_drew)); exact Kd.R_mono HO1136.out (fun _ hk => hk.2)⟩, ⟨by (with_reducible repeat (first | apply Kd.R_alloc | apply Kd.R_drewN | apply Kd.R_drew)); exact Kd.R_mono HO1143.out (fun _ hk => hk.2)⟩, ⟨kb_ BK1120.out⟩, ⟨kb_ BK1127.out⟩, ⟨kb_ BK1132.out⟩, ⟨kb_ BK1139.out⟩, ⟨kb_ BK1146.out⟩, ⟨bw_ HB.out⟩⟩
       ·rw [if_neg c47] at H
        have c47b0 : decide (0 < t1147) = false := decide_eq_false c47
        clear c47
        (first | rw [c47b0] | (simp only [i64_w, i32_w]; rw [c47b0]) | skip)
        replace H := Option.bind_eq_some_iff.mp H
        obtain ⟨t1148, A580, H⟩ := H
        (try dsimp only at H)
        have A58 := Aside0.mk A580
        clear A580
        have H' := Aside0.mk H
        clear H
        have hnb59 := NB1139_1120.out
        have hnc59 := NB1120_1139.out
        have hnb60 := NB1139_1127.out
        have hnc60 := NB1127_1139.out
        have hnb61 := NB1139_1132.out
        have hnc61 := NB1132_1139.out
        have hnb62 := NB1139_1146.out
        have hnc62 := NB1146_1139.out
        obtain ⟨hcz63_0, hcz63_1, hcz63_2, hfz63_0, hfz63_1, hfz63_2⟩ := c3_ BK1139
        have hnb64 := NB1120_1127.out
        have hnc64 := NB1127_1120.out
        have hnb65 := NB1120_1132.out
        have hnc65 := NB1132_1120.out
        have hnb66 := NB1120_1146.out
        have hnc66 := NB1146_1120.out
        obtain ⟨hcz67_0, hcz67_1, hcz67_2, hfz67_0, hfz67_1, hfz67_2⟩ := c3_ BK1120
        go_wp2_with (first | (go_at_call 36; (with_reducible refine (dy_Cmp.calls kj3 t1133 _ _ t1134 t1137 a0_0 _ _ l0_1 a0_2 t1147 _ ?side1 ?side2 ?side3 ?side4 A46.out ?sidet).mono ?_); (case sidet => exact Kd.C_below HTAB.out (bw_ HB.out)); (case side1 => refine (Kd.R_reads' (e := 53) (base := w.heap.size) (ok := fun k_ => (True ∧ some k_ ≠ (.slice Ao43 t1141.length co43 : Value).ownBlock)) (n := t1134.length) (c := co34) ?_).2.2; exact (kr_ ((Kd.R_mono (Kd.R_far (p := ⟨gb1146, 2, none⟩) (Kd.R_far (p := ⟨gb1146, 1, none⟩) (Kd.R_far (p := ⟨gb1146, 0, none⟩) (Kd.R_types HO1136.out BK1146.out (by decide)) (fun _ hk => hk.2) (.bool t1140)) (fun _ hk => hk.2) (.slice Ao43 t1141.length co43)) (fun _ hk => hk.2) (.int .i64 t1144)) (fun _ h_ => h_.1))))); (case side2 => exact (Kd.R_reads' HO1136.out).2.1); (case side3 => exact Kd.C_below HR0_1.out (bw_ HB.out)); (case side4 => exact HC0_1.out); rintro e w68 ⟨rfl, hb⟩; have n0_ := Aside0.mk (Kd.R_below (kr_ ((Kd.R_mono (Kd.R_far (p := ⟨gb1146, 2, none⟩) (Kd.R_far (p := ⟨gb1146, 1, none⟩) (Kd.R_far (p := ⟨gb1146, 0, none⟩) (Kd.R_types HO1136.out BK1146.out (by decide)) (fun _ hk => hk.2) (.bool t1140)) (fun _ hk => hk.2) (.slice Ao43 t1141.length co43)) (fun _ hk => hk.2) (.int .i64 t1144)) (fun _ h_ => h_.1)))) hb); have n1_ := Aside0.mk (Kd.R_below (kr_ ((Kd.R_mono (Kd.R_far (p := ⟨gb1146, 2, none⟩) (Kd.R_far (p := ⟨gb1146, 1, none⟩) (Kd.R_far (p := ⟨gb1146, 0, none⟩) (Kd.R_types HO1143.out BK1146.out (by decide)) (fun _ hk => hk.2) (.bool t1140)) (fun _ hk => hk.2) (.slice Ao43 t1141.length co43)) (fun _ hk => hk.2) (.int .i64 t1144)) (fun _ h_ => h_.1)))) hb); have n2_ := Aside0.mk (blk_below (g := gb1120) (o := .cells #[.bool a0_0, .slice A0_1 l0_1.length c0_1, .int .i64 a0_2] 26 (0, 0)) (by refine kb_ ?_; refine bf_ NB1120_1146 ?_; refine bf_ NB1120_1146 ?_; refine bf_ NB1120_1146 ?_; exact BK1120.out) hb); have n3_ := Aside0.mk (blk_below (g := gb1127) (o := .cells #[.int .i64 t1123, .bool t1124, .int .u64 t1125, .int .i64 t1126] 30 (0, 0)) (by refine kb_ ?_; refine bf_ NB1127_1146 ?_; refine bf_ NB1127_1146 ?_; refine bf_ NB1127_1146 ?_; exact BK1127.out) hb); have n4_ := Aside0.mk (blk_below (g := gb1132) (o := .cells #[.int .i64 t1128, .bool t1129, .int .u64 t1130, .int .i64 t1131] 30 (0, 0)) (by refine kb_ ?_; refine bf_ NB1132_1146 ?_; refine bf_ NB1132_1146 ?_; refine bf_ NB1132_1146 ?_; exact BK1132.out) hb); have n5_ := Aside0.mk (blk_below (g := gb1139) (o := .cells #[.bool t1133, .slice Ao34 t1134.length co34, .int .i64 t1137] 26 (0, 0)) (by refine kb_ ?_; refine bf_ NB1139_1146 ?_; refine bf_ NB1139_1146 ?_; refine bf_ NB1139_1146 ?_; exact BK1139.out) hb); have n6_ := Aside0.mk (blk_below (g := gb1146) (o := .cells #[.bool t1140, .slice Ao43 t1141.length co43, .int .i64 t1144] 26 (0, 0)) (by refine kb_ ?_; refine bp_ #[.bool t1140, .slice Ao43 t1141.length co43, .int .i64 0] 2 ?_; refine bp_ #[.bool t1140, .slice none 0 0, .int .i64 0] 1 ?_; refine bp_ #[.bool false, .slice none 0 0, .int .i64 0] 0 ?_; exact BK1146.out) hb); have n7_ := bq_ HB hb; clear HO1136; clear HO1143; clear BK1120; clear BK1127; clear BK1132; clear BK1139; clear BK1146; clear HB; have HO1136 := n0_; have HO1143 := n1_; have BK1120 := n2_; have BK1127 := n3_; have BK1132 := n4_; have BK1139 := n5_; have BK1146 := n6_; have HB := n7_; clear n0_ n1_ n2_ n3_ n4_ n5_ n6_ n7_; (try clear hb); (try clear hb2); (try clear hk); (try clear hi); have hnb69 := NB1146_1127.out; have hnc69 := NB1127_1146.out; have hnb70 := NB1146_1132.out; have hnc70 := NB1132_1146.out; obtain ⟨hcz71_0, hcz71_1, hcz71_2, hfz71_0, hfz71_1, hfz71_2⟩ := c3_ BK1146; obtain ⟨hcz72_0, hcz72_1, hcz72_2, hfz72_0, hfz72_1, hfz72_2⟩ := c3_ BK1120) | (go_at_call 36; (with_reducible refine (dy_Cmp.calls kj3 t1140 _ _ t1141 t1144 a0_0 _ _ l0_1 a0_2 t1148 _ ?side1 ?side2 ?side3 ?side4 A58.out ?sidet).mono ?_); (case sidet => exact Kd.C_below HTAB.out (bw_ HB.out)); (case side1 => exact kc_ (Kd.R_reads' HO1143.out).2.2); (case side2 => exact (Kd.R_reads' HO1143.out).2.1); (case side3 => exact kc_ (Kd.C_below HR0_1.out HB.out)); (case side4 => exact HC0_1.out); rintro e w73 ⟨rfl, hb⟩; replace HO1136 := Aside0.mk (Kd.R_below (kr_ HO1136.out) hb); replace HO1143 := Aside0.mk (Kd.R_below (kr_ HO1143.out) hb); replace BK1120 := kq_ BK1120 hb; replace BK1127 := kq_ BK1127 hb; replace BK1132 := kq_ BK1132 hb; replace BK1139 := kq_ BK1139 hb; replace BK1146 := kq_ BK1146 hb; replace HB := bq_ HB hb; (try clear hb); (try clear hb2); (try clear hk); (try clear hi)))
        go_meet
        case rel => exact ⟨_, (decide (t1148 < 0)), (by first | rfl | (simp; done) | (simp [*]; done)), H', ⟨by have := HJ3.out; first | omega | exact Nat.le_refl _⟩, ⟨by (with_reducible repeat (first | apply Kd.R_alloc | apply Kd.R_drewN | apply Kd.R_drew)); exact Kd.R_mono HO1136.out (fun _ hk => hk.2)⟩, ⟨by (with_reducible repeat (first | apply Kd.R_alloc | apply Kd.R_drewN | apply Kd.R_drew)); exact Kd.R_mono HO1143.out (fun _ hk => hk.2)⟩, ⟨kb_ BK1120.out⟩, ⟨kb_ BK1127.out⟩, ⟨kb_ BK1132.out⟩, ⟨kb_ BK1139.out⟩, ⟨kb_ BK1146.out⟩, ⟨bw_ HB.out⟩⟩
      ·replace c45 := Bool.eq_false_iff.mpr c45
       subst c45
       have H1 : (peloruslaw05_NumTight.j1 kj3 true a0_0 l0_1 a0_2 t1123 t1124 t1125 t1126 t1128 t1129 t1130 t1131 t1133 t1134 t1137 t1140 t1141 t1144) = some r := by rw [if_neg (show ¬ (false = true) by decide)] at H; exact H
       clear H
       have H := H1
       clear H1
       have H' := Aside0.mk H
       clear H
       go_wp2
       go_meet
       case rel => exact ⟨_, (true), (by first | rfl | (simp; done) | (simp [*]; done)), H', ⟨by have := HJ3.out; first | omega | exact Nat.le_refl _⟩, ⟨by (with_reducible repeat (first | apply Kd.R_alloc | apply Kd.R_drewN | apply Kd.R_drew)); exact Kd.R_mono (Kd.R_far (p := ⟨gb1146, 2, none⟩) (Kd.R_far (p := ⟨gb1146, 1, none⟩) (Kd.R_far (p := ⟨gb1146, 0, none⟩) (Kd.R_types HO1136.out BK1146.out (by decide)) (fun _ hk => hk.2) (.bool t1140)) (fun _ hk => hk.2) (.slice Ao43 t1141.length co43)) (fun _ hk => hk.2) (.int .i64 t1144)) (fun _ hk => hk.1.2)⟩, ⟨by (with_reducible repeat (first | apply Kd.R_alloc | apply Kd.R_drewN | apply Kd.R_drew)); exact Kd.R_mono (Kd.R_far (p := ⟨gb1146, 2, none⟩) (Kd.R_far (p := ⟨gb1146, 1, none⟩) (Kd.R_far (p := ⟨gb1146, 0, none⟩) (Kd.R_types HO1143.out BK1146.out (by decide)) (fun _ hk => hk.2) (.bool t1140)) (fun _ hk => hk.2) (.slice Ao43 t1141.length co43)) (fun _ hk => hk.2) (.int .i64 t1144)) (fun _ hk => hk.1.2)⟩, ⟨by refine kb_ ?_; refine bf_ NB1120_1146 ?_; refine bf_ NB1120_1146 ?_; refine bf_ NB1120_1146 ?_; exact BK1120.out⟩, ⟨by refine kb_ ?_; refine bf_ NB1127_1146 ?_; refine bf_ NB1127_1146 ?_; refine bf_ NB1127_1146 ?_; exact BK1127.out⟩, ⟨by refine kb_ ?_; refine bf_ NB1132_1146 ?_; refine bf_ NB1132_1146 ?_; refine bf_ NB1132_1146 ?_; exact BK1132.out⟩, ⟨by refine kb_ ?_; refine bf_ NB1139_1146 ?_; refine bf_ NB1139_1146 ?_; refine bf_ NB1139_1146 ?_; exact BK1139.out⟩, ⟨by refine kb_ ?_; refine bp_ #[.bool t1140, .slice Ao43 t1141.length co43, .int .i64 0] 2 ?_; refine bp_ #[.bool t1140, .slice none 0 0, .int .i64 0] 1 ?_; refine bp_ #[.bool false, .slice none 0 0, .int .i64 0] 0 ?_; exact BK1146.out⟩, ⟨bw_ HB.out⟩⟩
     ·replace c44 := Bool.eq_false_iff.mpr c44
      subst c44
      have H1 : (peloruslaw05_NumTight.j1 kj3 true a0_0 l0_1 a0_2 t1123 t1124 t1125 t1126 t1128 t1129 t1130 t1131 t1133 t1134 t1137 t1140 t1141 t1144) = some r := by rw [if_neg (show ¬ (false = true) by decide)] at H; exact H
      clear H
      have H := H1
      clear H1
      have H' := Aside0.mk H
      clear H
      go_wp2
      go_meet
      case rel => exact ⟨_, (true), (by first | rfl | (simp; done) | (simp [*]; done)), H', ⟨by have := HJ3.out; first | omega | exact Nat.le_refl _⟩, ⟨by (with_reducible repeat (first | apply Kd.R_alloc | apply Kd.R_drewN | apply Kd.R_drew)); exact Kd.R_mono (Kd.R_far (p := ⟨gb1146, 2, none⟩) (Kd.R_far (p := ⟨gb1146, 1, none⟩) (Kd.R_far (p := ⟨gb1146, 0, none⟩) (Kd.R_types HO1136.out BK1146.out (by decide)) (fun _ hk => hk.2) (.bool t1140)) (fun _ hk => hk.2) (.slice Ao43 t1141.length co43)) (fun _ hk => hk.2) (.int .i64 t1144)) (fun _ hk => hk.1.2)⟩, ⟨by (with_reducible repeat (first | apply Kd.R_alloc | apply Kd.R_drewN | apply Kd.R_drew)); exact Kd.R_mono (Kd.R_far (p := ⟨gb1146, 2, none⟩) (Kd.R_far (p := ⟨gb1146, 1, none⟩) (Kd.R_far (p := ⟨gb1146, 0, none⟩) (Kd.R_types HO1143.out BK1146.out (by decide)) (fun _ hk => hk.2) (.bool t1140)) (fun _ hk => hk.2) (.slice Ao43 t1141.length co43)) (fun _ hk => hk.2) (.int .i64 t1144)) (fun _ hk => hk.1.2)⟩, ⟨by refine kb_ ?_; refine bf_ NB1120_1146 ?_; refine bf_ NB1120_1146 ?_; refine bf_ NB1120_1146 ?_; exact BK1120.out⟩, ⟨by refine kb_ ?_; refine bf_ NB1127_1146 ?_; refine bf_ NB1127_1146 ?_; refine bf_ NB1127_1146 ?_; exact BK1127.out⟩, ⟨by refine kb_ ?_; refine bf_ NB1132_1146 ?_; refine bf_ NB1132_1146 ?_; refine bf_ NB1132_1146 ?_; exact BK1132.out⟩, ⟨by refine kb_ ?_; refine bf_ NB1139_1146 ?_; refine bf_ NB1139_1146 ?_; refine bf_ NB1139_1146 ?_; exact BK1139.out⟩, ⟨by refine kb_ ?_; refine bp_ #[.bool t1140, .slice Ao43 t1141.length co43, .int .i64 0] 2 ?_; refine bp_ #[.bool t1140, .slice none 0 0, .int .i64 0] 1 ?_; refine bp_ #[.bool false, .slice none 0 0, .int .i64 0] 0 ?_; exact BK1146.out⟩, ⟨bw_ HB.out⟩⟩
    case rest =>
     clear HC15
     try clear c1
     try clear c2
     try clear p2
     try clear c3
     try clear c4
     try clear c5
     try clear c6
     try clear c7
     try clear c9
     try clear c10
     try clear c11
     try clear c12
     try clear c19
     try clear c24
     try clear c25
     try clear c30
     try clear c31
     try clear c32
     try clear c35
     try clear c38
     try clear c39
     try clear c40
     try clear c41
     try clear c44
     try clear c45
     try clear c47
     try clear c47b0
     try clear c48
     try clear c49
     try clear c50
     try clear c51
     try clear c53
     try clear c54
     try clear c55
     try clear c59
     try clear c60
     try clear c61
     try clear c62
     try clear c64
     try clear c65
     try clear c66
     try clear c69
     try clear c70
     try clear hcz16_0 hcz16_1 hcz16_2
     try clear hcz20_0 hcz20_1 hcz20_2 hcz20_3
     try clear hcz21_0 hcz21_1 hcz21_2
     try clear hcz26_0 hcz26_1 hcz26_2 hcz26_3
     try clear hcz27_0 hcz27_1 hcz27_2 hcz27_3
     try clear hcz33_0 hcz33_1 hcz33_2
     try clear hcz35_0 hcz35_1 hcz35_2 hcz35_3
     try clear hcz42_0 hcz42_1 hcz42_2
     try clear hcz52_0 hcz52_1 hcz52_2
     try clear hcz56_0 hcz56_1 hcz56_2
     try clear hcz63_0 hcz63_1 hcz63_2
     try clear hcz67_0 hcz67_1 hcz67_2
     try clear hcz71_0 hcz71_1 hcz71_2
     try clear hcz72_0 hcz72_1 hcz72_2
     try clear hcz7_0 hcz7_1 hcz7_2
     try clear hfz16_0 hfz16_1 hfz16_2
     try clear hfz20_0 hfz20_1 hfz20_2 hfz20_3
     try clear hfz21_0 hfz21_1 hfz21_2
     try clear hfz26_0 hfz26_1 hfz26_2 hfz26_3
     try clear hfz27_0 hfz27_1 hfz27_2 hfz27_3
     try clear hfz33_0 hfz33_1 hfz33_2
     try clear hfz35_0 hfz35_1 hfz35_2 hfz35_3
     try clear hfz42_0 hfz42_1 hfz42_2
     try clear hfz52_0 hfz52_1 hfz52_2
     try clear hfz56_0 hfz56_1 hfz56_2
     try clear hfz63_0 hfz63_1 hfz63_2
     try clear hfz67_0 hfz67_1 hfz67_2
     try clear hfz71_0 hfz71_1 hfz71_2
     try clear hfz72_0 hfz72_1 hfz72_2
     try clear hfz7_0 hfz7_1 hfz7_2
     try clear p2
     obtain ⟨kq, x52_14, rfl, HA, HJ14, HO_1140001, HO_1147001, BK1120, BK1127, BK1132, BK1139, BK1146, HB⟩ := hcut
     cases kq with
     | zero => exact absurd HA.out (by simp [peloruslaw05_NumTight.j1])
     | succ kj14 =>
      have H := HA.out
      clear HA
      simp only [peloruslaw05_NumTight.j1] at H
      by_cases c74 : x52_14 = true
      ·subst c74
       have H1 : (some false) = some r := by rw [if_pos rfl] at H; exact H
       clear H
       have H := H1
       clear H1
       exact absurd ((Option.some.inj H).trans HRT_.out) (by simp)
      ·replace c74 := Bool.eq_false_iff.mpr c74
       subst c74
       have H1 : (if (t1123 == t1128 && (t1124 == t1129 && (t1125 == t1130 && (t1126 == t1131)))) = true then ((dy_Cmp.f kj14 t1133 t1134 t1137 a0_0 l0_1 a0_2).bind fun t1149 => (if t1149 = 0 then (some true) else ((num_Next.f kj14 t1123 t1124 t1125 t1126 true).bind fun bt1150 => (if (bt1150.1 == t1128 && (bt1150.2.1 == t1129 && (bt1150.2.2.1 == t1130 && (bt1150.2.2.2 == t1131)))) = true then ((dy_Cmp.f kj14 t1133 t1134 t1137 a0_0 l0_1 a0_2).bind fun t1154 => (if t1154 < 0 then ((dy_Cmp.f kj14 t1140 t1141 t1144 a0_0 l0_1 a0_2).bind fun t1155 => (some (decide (t1155 > 0)))) else (some false))) else (some false))))) else ((num_Next.f kj14 t1123 t1124 t1125 t1126 true).bind fun bt1156 => (if (bt1156.1 == t1128 && (bt1156.2.1 == t1129 && (bt1156.2.2.1 == t1130 && (bt1156.2.2.2 == t1131)))) = true then ((dy_Cmp.f kj14 t1133 t1134 t1137 a0_0 l0_1 a0_2).bind fun t1160 => (if t1160 < 0 then ((dy_Cmp.f kj14 t1140 t1141 t1144 a0_0 l0_1 a0_2).bind fun t1161 => (some (decide (t1161 > 0)))) else (some false))) else (some false)))) = some r := by rw [if_neg (show ¬ (false = true) by decide)] at H; exact H
       clear H
       have H := H1
       clear H1
       by_cases c75 : (t1123 == t1128 && (t1124 == t1129 && (t1125 == t1130 && (t1126 == t1131)))) = true
       ·rw [if_pos c75] at H
        have c75b0 : (t1123 == t1128 && (t1124 == t1129 && (t1125 == t1130 && (t1126 == t1131)))) = true := c75
        (try (have c75b1 : decide (t1123 = t1128 && (t1124 == t1129 && (t1125 == t1130 && (t1126 == t1131)))) = true := by simpa using c75))
        (try (have c75b2 : (t1123 == t1128 && (t1124 == t1129 && (t1125 == t1130 && (t1126 == t1131)))) = true := by simpa using c75))
        clear c75
        replace H := Option.bind_eq_some_iff.mp H
        obtain ⟨t1149, A760, H⟩ := H
        (try dsimp only at H)
        have A76 := Aside0.mk A760
        clear A760
        by_cases c77 : t1149 = 0
        ·rw [if_pos c77] at H
         have c77b0 : (t1149 == 0) = true := beq_iff_eq.mpr c77
         have c77b1 : (t1149 != 0) = false := bne_eq_false_iff_eq.mpr c77
         clear c77
         obtain rfl := Option.some.inj H
         try go_wp2
         replace HO_1140001 := Aside0.mk (Kd.R_drew HO_1140001.out)
         replace HO_1147001 := Aside0.mk (Kd.R_drew HO_1147001.out)
         replace BK1120 := Aside0.mk (blk_drew BK1120.out)
         replace BK1127 := Aside0.mk (blk_drew BK1127.out)
         replace BK1132 := Aside0.mk (blk_drew BK1132.out)
         replace BK1139 := Aside0.mk (blk_drew BK1139.out)
         replace BK1146 := Aside0.mk (blk_drew BK1146.out)
         replace HB := Aside0.mk (below_drew1 HB.out)
         refine start_ (n := 28) (S := fun w' => w'.cell? ⟨gb1127, 0, none⟩ = some (.int .i64 t1123) ∧ w'.cell? ⟨gb1127, 1, none⟩ = some (.bool t1124) ∧ w'.cell? ⟨gb1127, 2, none⟩ = some (.int .u64 t1125) ∧ w'.cell? ⟨gb1127, 3, none⟩ = some (.int .i64 t1126) ∧ w'.cell? ⟨gb1132, 0, none⟩ = some (.int .i64 t1128) ∧ w'.cell? ⟨gb1132, 1, none⟩ = some (.bool t1129) ∧ w'.cell? ⟨gb1132, 2, none⟩ = some (.int .u64 t1130) ∧ w'.cell? ⟨gb1132, 3, none⟩ = some (.int .i64 t1131) ∧ w'.cell? ⟨gb1139, 0, none⟩ = some (.bool t1133) ∧ w'.cell? ⟨gb1139, 1, none⟩ = some (.slice Ao34 t1134.length co34) ∧ w'.cell? ⟨gb1139, 2, none⟩ = some (.int .i64 t1137) ∧ w'.cell? ⟨gb1120, 0, none⟩ = some (.bool a0_0) ∧ w'.cell? ⟨gb1120, 1, none⟩ = some (.slice A0_1 l0_1.length c0_1) ∧ w'.cell? ⟨gb1120, 2, none⟩ = some (.int .i64 a0_2)) (ds := []) #[false, false, false, false, false, false, false, false, false, false, false, false, false, false, false, false, false, false, false, false, false, false, false, false, false, false, false, false] (by kernel_rfl) rfl rfl ⟨(blk_cell BK1127.out 0).trans rfl, (blk_cell BK1127.out 1).trans rfl, (blk_cell BK1127.out 2).trans rfl, (blk_cell BK1127.out 3).trans rfl, (blk_cell BK1132.out 0).trans rfl, (blk_cell BK1132.out 1).trans rfl, (blk_cell BK1132.out 2).trans rfl, (blk_cell BK1132.out 3).trans rfl, (blk_cell BK1139.out 0).trans rfl, (blk_cell BK1139.out 1).trans rfl, (blk_cell BK1139.out 2).trans rfl, (blk_cell BK1120.out 0).trans rfl, (blk_cell BK1120.out 1).trans rfl, (blk_cell BK1120.out 2).trans rfl⟩ (fun hHeld => ?_); refine with_tabW peloruslaw05_NumTight.tab11 peloruslaw05_NumTight.bits11 (fun HT_ HW_ => ?_)
         generalize wc.drew = w78 at HO_1140001 HO_1147001 BK1120 BK1127 BK1132 BK1139 BK1146 HB hHeld ⊢
         refine take_ (i := 0) (N := some 53) (v := ?_) (a' := ?_) #[true, false, false, false, false, false, false, false, false, false, false, false, false, false, false, false, false, false, false, false, false, false, false, false, false, false, false, false] rfl rfl (take_ofW HT_.out HW_.out (by kernel_rfl)) (fun _ _ _ h => h) (Or.inl ⟨by rfl, ?_⟩) hHeld ?_ ?_
         rotate_left
         ·rintro w' ⟨s0, s1, s2, s3, s4, s5, s6, s7, s8, s9, s10, s11, s12, s13⟩
          go_simp
          with_reducible rfl
         rotate_left
         ·exact pt_
         refine take_ (i := 1) (N := some 54) (v := ?_) (a' := ?_) #[true, true, false, false, false, false, false, false, false, false, false, false, false, false, false, false, false, false, false, false, false, false, false, false, false, false, false, false] rfl rfl (take_ofW HT_.out HW_.out (by kernel_rfl)) (fun _ _ _ h => h) (Or.inl ⟨by rfl, ?_⟩) hHeld ?_ ?_
         rotate_left
         ·rintro w' ⟨s0, s1, s2, s3, s4, s5, s6, s7, s8, s9, s10, s11, s12, s13⟩
          go_simp
          with_reducible rfl
         rotate_left
         ·exact pt_
         refine pure_ (i := 2) (N := some 55) (v := ?_) (a' := ?_) #[true, true, true, false, false, false, false, false, false, false, false, false, false, false, false, false, false, false, false, false, false, false, false, false, false, false, false, false] rfl rfl (any_of HT_.out (by kernel_rfl)) (fun _ _ _ h => h) (Or.inl ⟨by rfl, ?_⟩) ?_ ?_
         rotate_left
         ·intro w'
          go_simp
          with_reducible rfl
         rotate_left
         ·exact pt_
         refine pure_ (i := 3) (N := some 56) (v := ?_) (a' := ?_) #[true, true, true, true, false, false, false, false, false, false, false, false, false, false, false, false, false, false, false, false, false, false, false, false, false, false, false, false] rfl rfl (any_of HT_.out (by kernel_rfl)) (fun _ _ _ h => h) (Or.inl ⟨by rfl, ?_⟩) ?_ ?_
         rotate_left
         ·intro w'
          go_simp
          with_reducible rfl
         rotate_left
         ·exact pt_
         refine take_ (i := 4) (N := some 57) (v := ?_) (a' := ?_) #[true, true, true, true, true, false, false, false, false, false, false, false, false, false, false, false, false, false, false, false, false, false, false, false, false, false, false, false] rfl rfl (take_ofW HT_.out HW_.out (by kernel_rfl)) (fun _ _ _ h => h) (Or.inl ⟨by rfl, ?_⟩) hHeld ?_ ?_
         rotate_left
         ·rintro w' ⟨s0, s1, s2, s3, s4, s5, s6, s7, s8, s9, s10, s11, s12, s13⟩
          go_simp
          with_reducible rfl
         rotate_left
         ·exact pt_
         refine take_ (i := 5) (N := some 58) (v := ?_) (a' := ?_) #[true, true, true, true, true, true, false, false, false, false, false, false, false, false, false, false, false, false, false, false, false, false, false, false, false, false, false, false] rfl rfl (take_ofW HT_.out HW_.out (by kernel_rfl)) (fun _ _ _ h => h) (Or.inl ⟨by rfl, ?_⟩) hHeld ?_ ?_
         rotate_left
         ·rintro w' ⟨s0, s1, s2, s3, s4, s5, s6, s7, s8, s9, s10, s11, s12, s13⟩
          go_simp
          with_reducible rfl
         rotate_left
         ·exact pt_
         refine one_ (i := 6) (N := some 59) #[true, true, true, true, true, true, true, false, false, false, false, false, false, false, false, false, false, false, false, false, false, false, false, false, false, false, false, false] rfl rfl (one_of HT_.out (by kernel_rfl)) (by decide) (fun K hK => ?_)
         refine gs_ Tryd.func36 #[.agg #[.bool t1133, .slice Ao34 t1134.length co34, .int .i64 t1137], .agg #[.bool a0_0, .slice A0_1 l0_1.length c0_1, .int .i64 a0_2]] ?_
         with_reducible refine (dy_Cmp.calls kj14 t1133 _ _ t1134 t1137 a0_0 _ _ l0_1 a0_2 t1149 _ ?side1 ?side2 ?side3 ?side4 A76.out ?sidet).mono ?_
         (case sidet => exact Kd.C_below HTAB.out (bw_ HB.out))
         (case side1 => exact kc_ (Kd.R_reads' HO_1140001.out).2.2)
         (case side2 => exact (Kd.R_reads' HO_1140001.out).2.1)
         (case side3 => exact kc_ (Kd.C_below HR0_1.out HB.out))
         (case side4 => exact HC0_1.out)
         rintro e w79 ⟨rfl, hb⟩
         refine ⟨_, rfl, ?_⟩
         replace HO_1140001 := Aside0.mk (Kd.R_below (kr_ HO_1140001.out) hb)
         replace HO_1147001 := Aside0.mk (Kd.R_below (kr_ HO_1147001.out) hb)
         replace BK1120 := kq_ BK1120 hb
         replace BK1127 := kq_ BK1127 hb
         replace BK1132 := kq_ BK1132 hb
         replace BK1139 := kq_ BK1139 hb
         replace BK1146 := kq_ BK1146 hb
         replace HB := bq_ HB hb
         (try clear hb)
         (try clear hb2)
         (try clear hk)
         (try clear hi)
         refine hK.out _ _ ⟨(blk_cell BK1127.out 0).trans rfl, (blk_cell BK1127.out 1).trans rfl, (blk_cell BK1127.out 2).trans rfl, (blk_cell BK1127.out 3).trans rfl, (blk_cell BK1132.out 0).trans rfl, (blk_cell BK1132.out 1).trans rfl, (blk_cell BK1132.out 2).trans rfl, (blk_cell BK1132.out 3).trans rfl, (blk_cell BK1139.out 0).trans rfl, (blk_cell BK1139.out 1).trans rfl, (blk_cell BK1139.out 2).trans rfl, (blk_cell BK1120.out 0).trans rfl, (blk_cell BK1120.out 1).trans rfl, (blk_cell BK1120.out 2).trans rfl⟩ (fun hHeld => ?_)
         clear hK K
         refine norm_ (a' := ?_) ?_ ?_
         rotate_left
         ·show Act.put _ (some 59) _ = _
          exact pt_
         refine pure_ (i := 7) (N := some 60) (v := ?_) (a' := ?_) #[true, true, true, true, true, true, true, true, false, false, false, false, false, false, false, false, false, false, false, false, false, false, false, false, false, false, false, false] rfl rfl (any_of HT_.out (by kernel_rfl)) (fun _ _ _ h => h) (Or.inl ⟨by rfl, ?_⟩) ?_ ?_
         rotate_left
         ·intro w'
          go_simp
          with_reducible rfl
         rotate_left
         ·exact pt_
         refine pure_ (i := 8) (N := some 61) (v := ?_) (a' := ?_) #[true, true, true, true, true, true, true, true, true, false, false, false, false, false, false, false, false, false, false, false, false, false, false, false, false, false, false, false] rfl rfl (any_of HT_.out (by kernel_rfl)) (fun _ _ _ h => h) (Or.inl ⟨by rfl, ?_⟩) ?_ ?_
         rotate_left
         ·intro w'
          go_simp
          with_reducible rfl
         rotate_left
         ·exact pt_
         refine pure_ (i := 9) (N := some 62) (v := ?_) (a' := ?_) #[true, true, true, true, true, true, true, true, true, true, false, false, false, false, false, false, false, false, false, false, false, false, false, false, false, false, false, false] rfl rfl (any_of HT_.out (by kernel_rfl)) (fun _ _ _ h => h) (Or.inl ⟨by rfl, ?_⟩) ?_ ?_
         rotate_left
         ·intro w'
          go_simp
          with_reducible rfl
         rotate_left
         ·exact pt_
         refine pure_ (i := 10) (N := some 63) (v := undef) (a' := ?_) #[true, true, true, true, true, true, true, true, true, true, true, false, false, false, false, false, false, false, false, false, false, false, false, false, false, false, false, false] rfl rfl (any_of HT_.out (by kernel_rfl)) (fun _ _ _ h => h) (Or.inr ⟨by rfl, rfl⟩) ?_ ?_
         rotate_left
         ·exact pt_
         refine pure_ (i := 11) (N := some 64) (v := undef) (a' := ?_) #[true, true, true, true, true, true, true, true, true, true, true, true, false, false, false, false, false, false, false, false, false, false, false, false, false, false, false, false] rfl rfl (any_of HT_.out (by kernel_rfl)) (fun _ _ _ h => h) (Or.inr ⟨by rfl, rfl⟩) ?_ ?_
         rotate_left
         ·exact pt_
         refine pure_ (i := 12) (N := some 65) (v := undef) (a' := ?_) #[true, true, true, true, true, true, true, true, true, true, true, true, true, false, false, false, false, false, false, false, false, false, false, false, false, false, false, false] rfl rfl (any_of HT_.out (by kernel_rfl)) (fun _ _ _ h => h) (Or.inr ⟨by rfl, rfl⟩) ?_ ?_
         rotate_left
         ·exact pt_
         refine pure_ (i := 13) (N := some 66) (v := undef) (a' := ?_) #[true, true, true, true, true, true, true, true, true, true, true, true, true, true, false, false, false, false, false, false, false, false, false, false, false, false, false, false] rfl rfl (any_of HT_.out (by kernel_rfl)) (fun _ _ _ h => h) (Or.inr ⟨by rfl, rfl⟩) ?_ ?_
         rotate_left
         ·exact pt_
         refine pure_ (i := 14) (N := some 67) (v := undef) (a' := ?_) #[true, true, true, true, true, true, true, true, true, true, true, true, true, true, true, false, false, false, false, false, false, false, false, false, false, false, false, false] rfl rfl (any_of HT_.out (by kernel_rfl)) (fun _ _ _ h => h) (Or.inr ⟨by rfl, rfl⟩) ?_ ?_
         rotate_left
         ·exact pt_
         refine pure_ (i := 15) (N := some 68) (v := undef) (a' := ?_) #[true, true, true, true, true, true, true, true, true, true, true, true, true, true, true, true, false, false, false, false, false, false, false, false, false, false, false, false] rfl rfl (any_of HT_.out (by kernel_rfl)) (fun _ _ _ h => h) (Or.inr ⟨by rfl, rfl⟩) ?_ ?_
         rotate_left
         ·exact pt_
         refine pure_ (i := 16) (N := some 69) (v := undef) (a' := ?_) #[true, true, true, true, true, true, true, true, true, true, true, true, true, true, true, true, true, false, false, false, false, false, false, false, false, false, false, false] rfl rfl (any_of HT_.out (by kernel_rfl)) (fun _ _ _ h => h) (Or.inr ⟨by rfl, rfl⟩) ?_ ?_
         rotate_left
         ·exact pt_
         refine pure_ (i := 17) (N := some 70) (v := undef) (a' := ?_) #[true, true, true, true, true, true, true, true, true, true, true, true, true, true, true, true, true, true, false, false, false, false, false, false, false, false, false, false] rfl rfl (any_of HT_.out (by kernel_rfl)) (fun _ _ _ h => h) (Or.inr ⟨by rfl, rfl⟩) ?_ ?_
         rotate_left
         ·exact pt_
         refine pure_ (i := 18) (N := some 71) (v := undef) (a' := ?_) #[true, true, true, true, true, true, true, true, true, true, true, true, true, true, true, true, true, true, true, false, false, false, false, false, false, false, false, false] rfl rfl (any_of HT_.out (by kernel_rfl)) (fun _ _ _ h => h) (Or.inr ⟨by rfl, rfl⟩) ?_ ?_
         rotate_left
         ·exact pt_
         refine pure_ (i := 19) (N := some 72) (v := undef) (a' := ?_) #[true, true, true, true, true, true, true, true, true, true, true, true, true, true, true, true, true, true, true, true, false, false, false, false, false, false, false, false] rfl rfl (any_of HT_.out (by kernel_rfl)) (fun _ _ _ h => h) (Or.inr ⟨by rfl, rfl⟩) ?_ ?_
         rotate_left
         ·exact pt_
         refine pure_ (i := 20) (N := some 73) (v := undef) (a' := ?_) #[true, true, true, true, true, true, true, true, true, true, true, true, true, true, true, true, true, true, true, true, true, false, false, false, false, false, false, false] rfl rfl (any_of HT_.out (by kernel_rfl)) (fun _ _ _ h => h) (Or.inr ⟨by rfl, rfl⟩) ?_ ?_
         rotate_left
         ·exact pt_
         refine pure_ (i := 21) (N := some 74) (v := undef) (a' := ?_) #[true, true, true, true, true, true, true, true, true, true, true, true, true, true, true, true, true, true, true, true, true, true, false, false, false, false, false, false] rfl rfl (any_of HT_.out (by kernel_rfl)) (fun _ _ _ h => h) (Or.inr ⟨by rfl, rfl⟩) ?_ ?_
         rotate_left
         ·exact pt_
         refine pure_ (i := 22) (N := some 75) (v := undef) (a' := ?_) #[true, true, true, true, true, true, true, true, true, true, true, true, true, true, true, true, true, true, true, true, true, true, true, false, false, false, false, false] rfl rfl (any_of HT_.out (by kernel_rfl)) (fun _ _ _ h => h) (Or.inr ⟨by rfl, rfl⟩) ?_ ?_
         rotate_left
         ·exact pt_
         refine pure_ (i := 23) (N := some 76) (v := undef) (a' := ?_) #[true, true, true, true, true, true, true, true, true, true, true, true, true, true, true, true, true, true, true, true, true, true, true, true, false, false, false, false] rfl rfl (any_of HT_.out (by kernel_rfl)) (fun _ _ _ h => h) (Or.inr ⟨by rfl, rfl⟩) ?_ ?_
         rotate_left
         ·exact pt_
         refine pure_ (i := 24) (N := some 77) (v := undef) (a' := ?_) #[true, true, true, true, true, true, true, true, true, true, true, true, true, true, true, true, true, true, true, true, true, true, true, true, true, false, false, false] rfl rfl (any_of HT_.out (by kernel_rfl)) (fun _ _ _ h => h) (Or.inr ⟨by rfl, rfl⟩) ?_ ?_
         rotate_left
         ·exact pt_
         refine pure_ (i := 25) (N := some 78) (v := undef) (a' := ?_) #[true, true, true, true, true, true, true, true, true, true, true, true, true, true, true, true, true, true, true, true, true, true, true, true, true, true, false, false] rfl rfl (any_of HT_.out (by kernel_rfl)) (fun _ _ _ h => h) (Or.inr ⟨by rfl, rfl⟩) ?_ ?_
         rotate_left
         ·exact pt_
         refine pure_ (i := 26) (N := some 79) (v := ?_) (a' := ?_) #[true, true, true, true, true, true, true, true, true, true, true, true, true, true, true, true, true, true, true, true, true, true, true, true, true, true, true, false] rfl rfl (any_of HT_.out (by kernel_rfl)) (fun _ _ _ h => h) (Or.inl ⟨by rfl, ?_⟩) ?_ ?_
         rotate_left
         ·intro w'
          go_simp
          with_reducible rfl
         rotate_left
         ·exact pt_
         refine pure_ (i := 27) (N := some 2) (v := ?_) (a' := ?_) #[true, true, true, true, true, true, true, true, true, true, true, true, true, true, true, true, true, true, true, true, true, true, true, true, true, true, true, true] rfl rfl (any_of HT_.out (by kernel_rfl)) (fun _ _ _ h => h) (Or.inl ⟨by rfl, ?_⟩) ?_ ?_
         rotate_left
         ·intro w'
          go_simp
          with_reducible rfl
         rotate_left
         ·exact pt_
         refine done_ (done_of HT_.out (by kernel_rfl)) ?_
         try go_wp2
         go_ret
         exact ⟨rf_, bw_ HB.out⟩
        ·rw [if_neg c77] at H
         have c77b0 : (t1149 == 0) = false := beq_eq_false_iff_ne.mpr c77
         have c77b1 : (t1149 != 0) = true := bne_iff_ne.mpr c77
         replace H := Option.bind_eq_some_iff.mp H
         obtain ⟨⟨t1150, t1151, t1152, t1153⟩, A800, H⟩ := H
         (try dsimp only at H)
         have A80 := Aside0.mk A800
         clear A800
         by_cases c81 : (t1150 == t1128 && (t1151 == t1129 && (t1152 == t1130 && (t1153 == t1131)))) = true
         ·rw [if_pos c81] at H
          have c81b0 : (t1150 == t1128 && (t1151 == t1129 && (t1152 == t1130 && (t1153 == t1131)))) = true := c81
          (try (have c81b1 : decide (t1150 = t1128 && (t1151 == t1129 && (t1152 == t1130 && (t1153 == t1131)))) = true := by simpa using c81))
          (try (have c81b2 : (t1150 == t1128 && (t1151 == t1129 && (t1152 == t1130 && (t1153 == t1131)))) = true := by simpa using c81))
          clear c81
          replace H := Option.bind_eq_some_iff.mp H
          obtain ⟨t1154, A820, H⟩ := H
          (try dsimp only at H)
          have A82 := Aside0.mk A820
          clear A820
          by_cases c83 : t1154 < 0
          ·rw [if_pos c83] at H
           have c83b0 : decide (t1154 < 0) = true := decide_eq_true c83
           clear c83
           replace H := Option.bind_eq_some_iff.mp H
           obtain ⟨t1155, A840, H⟩ := H
           (try dsimp only at H)
           have A84 := Aside0.mk A840
           clear A840
           obtain rfl := Option.some.inj H
           try go_wp2
           replace HO_1140001 := Aside0.mk (Kd.R_drew HO_1140001.out)
           replace HO_1147001 := Aside0.mk (Kd.R_drew HO_1147001.out)
           replace BK1120 := Aside0.mk (blk_drew BK1120.out)
           replace BK1127 := Aside0.mk (blk_drew BK1127.out)
           replace BK1132 := Aside0.mk (blk_drew BK1132.out)
           replace BK1139 := Aside0.mk (blk_drew BK1139.out)
           replace BK1146 := Aside0.mk (blk_drew BK1146.out)
           replace HB := Aside0.mk (below_drew1 HB.out)
           refine start_ (n := 28) (S := fun w' => w'.cell? ⟨gb1127, 0, none⟩ = some (.int .i64 t1123) ∧ w'.cell? ⟨gb1127, 1, none⟩ = some (.bool t1124) ∧ w'.cell? ⟨gb1127, 2, none⟩ = some (.int .u64 t1125) ∧ w'.cell? ⟨gb1127, 3, none⟩ = some (.int .i64 t1126) ∧ w'.cell? ⟨gb1132, 0, none⟩ = some (.int .i64 t1128) ∧ w'.cell? ⟨gb1132, 1, none⟩ = some (.bool t1129) ∧ w'.cell? ⟨gb1132, 2, none⟩ = some (.int .u64 t1130) ∧ w'.cell? ⟨gb1132, 3, none⟩ = some (.int .i64 t1131) ∧ w'.cell? ⟨gb1139, 0, none⟩ = some (.bool t1133) ∧ w'.cell? ⟨gb1139, 1, none⟩ = some (.slice Ao34 t1134.length co34) ∧ w'.cell? ⟨gb1139, 2, none⟩ = some (.int .i64 t1137) ∧ w'.cell? ⟨gb1120, 0, none⟩ = some (.bool a0_0) ∧ w'.cell? ⟨gb1120, 1, none⟩ = some (.slice A0_1 l0_1.length c0_1) ∧ w'.cell? ⟨gb1120, 2, none⟩ = some (.int .i64 a0_2) ∧ w'.cell? ⟨gb1146, 0, none⟩ = some (.bool t1140) ∧ w'.cell? ⟨gb1146, 1, none⟩ = some (.slice Ao43 t1141.length co43) ∧ w'.cell? ⟨gb1146, 2, none⟩ = some (.int .i64 t1144)) (ds := []) #[false, false, false, false, false, false, false, false, false, false, false, false, false, false, false, false, false, false, false, false, false, false, false, false, false, false, false, false] (by kernel_rfl) rfl rfl ⟨(blk_cell BK1127.out 0).trans rfl, (blk_cell BK1127.out 1).trans rfl, (blk_cell BK1127.out 2).trans rfl, (blk_cell BK1127.out 3).trans rfl, (blk_cell BK1132.out 0).trans rfl, (blk_cell BK1132.out 1).trans rfl, (blk_cell BK1132.out 2).trans rfl, (blk_cell BK1132.out 3).trans rfl, (blk_cell BK1139.out 0).trans rfl, (blk_cell BK1139.out 1).trans rfl, (blk_cell BK1139.out 2).trans rfl, (blk_cell BK1120.out 0).trans rfl, (blk_cell BK1120.out 1).trans rfl, (blk_cell BK1120.out 2).trans rfl, (blk_cell BK1146.out 0).trans rfl, (blk_cell BK1146.out 1).trans rfl, (blk_cell BK1146.out 2).trans rfl⟩ (fun hHeld => ?_); refine with_tabW peloruslaw05_NumTight.tab11 peloruslaw05_NumTight.bits11 (fun HT_ HW_ => ?_)
           generalize wc.drew = w85 at HO_1140001 HO_1147001 BK1120 BK1127 BK1132 BK1139 BK1146 HB hHeld ⊢
           refine take_ (i := 0) (N := some 53) (v := ?_) (a' := ?_) #[true, false, false, false, false, false, false, false, false, false, false, false, false, false, false, false, false, false, false, false, false, false, false, false, false, false, false, false] rfl rfl (take_ofW HT_.out HW_.out (by kernel_rfl)) (fun _ _ _ h => h) (Or.inl ⟨by rfl, ?_⟩) hHeld ?_ ?_
           rotate_left
           ·rintro w' ⟨s0, s1, s2, s3, s4, s5, s6, s7, s8, s9, s10, s11, s12, s13, s14, s15, s16⟩
            go_simp
            with_reducible rfl
           rotate_left
           ·exact pt_
           refine take_ (i := 1) (N := some 54) (v := ?_) (a' := ?_) #[true, true, false, false, false, false, false, false, false, false, false, false, false, false, false, false, false, false, false, false, false, false, false, false, false, false, false, false] rfl rfl (take_ofW HT_.out HW_.out (by kernel_rfl)) (fun _ _ _ h => h) (Or.inl ⟨by rfl, ?_⟩) hHeld ?_ ?_
           rotate_left
           ·rintro w' ⟨s0, s1, s2, s3, s4, s5, s6, s7, s8, s9, s10, s11, s12, s13, s14, s15, s16⟩
            go_simp
            with_reducible rfl
           rotate_left
           ·exact pt_
           refine pure_ (i := 2) (N := some 55) (v := ?_) (a' := ?_) #[true, true, true, false, false, false, false, false, false, false, false, false, false, false, false, false, false, false, false, false, false, false, false, false, false, false, false, false] rfl rfl (any_of HT_.out (by kernel_rfl)) (fun _ _ _ h => h) (Or.inl ⟨by rfl, ?_⟩) ?_ ?_
           rotate_left
           ·intro w'
            go_simp
            with_reducible rfl
           rotate_left
           ·exact pt_
           refine pure_ (i := 3) (N := some 56) (v := ?_) (a' := ?_) #[true, true, true, true, false, false, false, false, false, false, false, false, false, false, false, false, false, false, false, false, false, false, false, false, false, false, false, false] rfl rfl (any_of HT_.out (by kernel_rfl)) (fun _ _ _ h => h) (Or.inl ⟨by rfl, ?_⟩) ?_ ?_
           rotate_left
           ·intro w'
            go_simp
            with_reducible rfl
           rotate_left
           ·exact pt_
           refine take_ (i := 4) (N := some 57) (v := ?_) (a' := ?_) #[true, true, true, true, true, false, false, false, false, false, false, false, false, false, false, false, false, false, false, false, false, false, false, false, false, false, false, false] rfl rfl (take_ofW HT_.out HW_.out (by kernel_rfl)) (fun _ _ _ h => h) (Or.inl ⟨by rfl, ?_⟩) hHeld ?_ ?_
           rotate_left
           ·rintro w' ⟨s0, s1, s2, s3, s4, s5, s6, s7, s8, s9, s10, s11, s12, s13, s14, s15, s16⟩
            go_simp
            with_reducible rfl
           rotate_left
           ·exact pt_
           refine take_ (i := 5) (N := some 58) (v := ?_) (a' := ?_) #[true, true, true, true, true, true, false, false, false, false, false, false, false, false, false, false, false, false, false, false, false, false, false, false, false, false, false, false] rfl rfl (take_ofW HT_.out HW_.out (by kernel_rfl)) (fun _ _ _ h => h) (Or.inl ⟨by rfl, ?_⟩) hHeld ?_ ?_
           rotate_left
           ·rintro w' ⟨s0, s1, s2, s3, s4, s5, s6, s7, s8, s9, s10, s11, s12, s13, s14, s15, s16⟩
            go_simp
            with_reducible rfl
           rotate_left
           ·exact pt_
           refine one_ (i := 6) (N := some 59) #[true, true, true, true, true, true, true, false, false, false, false, false, false, false, false, false, false, false, false, false, false, false, false, false, false, false, false, false] rfl rfl (one_of HT_.out (by kernel_rfl)) (by decide) (fun K hK => ?_)
           refine gs_ Tryd.func36 #[.agg #[.bool t1133, .slice Ao34 t1134.length co34, .int .i64 t1137], .agg #[.bool a0_0, .slice A0_1 l0_1.length c0_1, .int .i64 a0_2]] ?_
           with_reducible refine (dy_Cmp.calls kj14 t1133 _ _ t1134 t1137 a0_0 _ _ l0_1 a0_2 t1149 _ ?side1 ?side2 ?side3 ?side4 A76.out ?sidet).mono ?_
           (case sidet => exact Kd.C_below HTAB.out (bw_ HB.out))
           (case side1 => exact kc_ (Kd.R_reads' HO_1140001.out).2.2)
           (case side2 => exact (Kd.R_reads' HO_1140001.out).2.1)
           (case side3 => exact kc_ (Kd.C_below HR0_1.out HB.out))
           (case side4 => exact HC0_1.out)
           rintro e w86 ⟨rfl, hb⟩
           refine ⟨_, rfl, ?_⟩
           replace HO_1140001 := Aside0.mk (Kd.R_below (kr_ HO_1140001.out) hb)
           replace HO_1147001 := Aside0.mk (Kd.R_below (kr_ HO_1147001.out) hb)
           replace BK1120 := kq_ BK1120 hb
           replace BK1127 := kq_ BK1127 hb
           replace BK1132 := kq_ BK1132 hb
           replace BK1139 := kq_ BK1139 hb
           replace BK1146 := kq_ BK1146 hb
           replace HB := bq_ HB hb
           (try clear hb)
           (try clear hb2)
           (try clear hk)
           (try clear hi)
           refine hK.out _ _ ⟨(blk_cell BK1127.out 0).trans rfl, (blk_cell BK1127.out 1).trans rfl, (blk_cell BK1127.out 2).trans rfl, (blk_cell BK1127.out 3).trans rfl, (blk_cell BK1132.out 0).trans rfl, (blk_cell BK1132.out 1).trans rfl, (blk_cell BK1132.out 2).trans rfl, (blk_cell BK1132.out 3).trans rfl, (blk_cell BK1139.out 0).trans rfl, (blk_cell BK1139.out 1).trans rfl, (blk_cell BK1139.out 2).trans rfl, (blk_cell BK1120.out 0).trans rfl, (blk_cell BK1120.out 1).trans rfl, (blk_cell BK1120.out 2).trans rfl, (blk_cell BK1146.out 0).trans rfl, (blk_cell BK1146.out 1).trans rfl, (blk_cell BK1146.out 2).trans rfl⟩ (fun hHeld => ?_)
           clear hK K
           refine norm_ (a' := ?_) ?_ ?_
           rotate_left
           ·show Act.put _ (some 59) _ = _
            exact pt_
           refine pure_ (i := 7) (N := some 60) (v := ?_) (a' := ?_) #[true, true, true, true, true, true, true, true, false, false, false, false, false, false, false, false, false, false, false, false, false, false, false, false, false, false, false, false] rfl rfl (any_of HT_.out (by kernel_rfl)) (fun _ _ _ h => h) (Or.inl ⟨by rfl, ?_⟩) ?_ ?_
           rotate_left
           ·intro w'
            go_simp
            with_reducible rfl
           rotate_left
           ·exact pt_
           refine pure_ (i := 8) (N := some 61) (v := ?_) (a' := ?_) #[true, true, true, true, true, true, true, true, true, false, false, false, false, false, false, false, false, false, false, false, false, false, false, false, false, false, false, false] rfl rfl (any_of HT_.out (by kernel_rfl)) (fun _ _ _ h => h) (Or.inl ⟨by rfl, ?_⟩) ?_ ?_
           rotate_left
           ·intro w'
            go_simp
            with_reducible rfl
           rotate_left
           ·exact pt_
           refine pure_ (i := 9) (N := some 62) (v := ?_) (a' := ?_) #[true, true, true, true, true, true, true, true, true, true, false, false, false, false, false, false, false, false, false, false, false, false, false, false, false, false, false, false] rfl rfl (any_of HT_.out (by kernel_rfl)) (fun _ _ _ h => h) (Or.inl ⟨by rfl, ?_⟩) ?_ ?_
           rotate_left
           ·intro w'
            go_simp
            with_reducible rfl
           rotate_left
           ·exact pt_
           refine take_ (i := 10) (N := some 63) (v := ?_) (a' := ?_) #[true, true, true, true, true, true, true, true, true, true, true, false, false, false, false, false, false, false, false, false, false, false, false, false, false, false, false, false] rfl rfl (take_ofW HT_.out HW_.out (by kernel_rfl)) (fun _ _ _ h => h) (Or.inl ⟨by rfl, ?_⟩) hHeld ?_ ?_
           rotate_left
           ·rintro w' ⟨s0, s1, s2, s3, s4, s5, s6, s7, s8, s9, s10, s11, s12, s13, s14, s15, s16⟩
            go_simp
            with_reducible rfl
           rotate_left
           ·exact pt_
           refine take_ (i := 12) (N := some 65) (v := ?_) (a' := ?_) #[true, true, true, true, true, true, true, true, true, true, true, false, true, false, false, false, false, false, false, false, false, false, false, false, false, false, false, false] rfl rfl (take_ofW HT_.out HW_.out (by kernel_rfl)) (fun _ _ _ h => h) (Or.inl ⟨by rfl, ?_⟩) hHeld ?_ ?_
           rotate_left
           ·rintro w' ⟨s0, s1, s2, s3, s4, s5, s6, s7, s8, s9, s10, s11, s12, s13, s14, s15, s16⟩
            go_simp
            with_reducible rfl
           rotate_left
           ·exact pt_
           refine one_ (i := 11) (N := some 64) #[true, true, true, true, true, true, true, true, true, true, true, true, true, false, false, false, false, false, false, false, false, false, false, false, false, false, false, false] rfl rfl (one_of HT_.out (by kernel_rfl)) (by decide) (fun K hK => ?_)
           refine gs_ Tryd.func24 #[.agg #[.int .i64 t1123, .bool t1124, .int .u64 t1125, .int .i64 t1126], .bool true] ?_
           with_reducible refine (num_Next.calls kj14 t1123 t1124 t1125 t1126 true t1150 t1151 t1152 t1153 _ A80.out).mono ?_
           rintro e w87 ⟨rfl, hb⟩
           refine ⟨_, rfl, ?_⟩
           replace HO_1140001 := Aside0.mk (Kd.R_below (kr_ HO_1140001.out) hb)
           replace HO_1147001 := Aside0.mk (Kd.R_below (kr_ HO_1147001.out) hb)
           replace BK1120 := kq_ BK1120 hb
           replace BK1127 := kq_ BK1127 hb
           replace BK1132 := kq_ BK1132 hb
           replace BK1139 := kq_ BK1139 hb
           replace BK1146 := kq_ BK1146 hb
           replace HB := bq_ HB hb
           (try clear hb)
           (try clear hb2)
           (try clear hk)
           (try clear hi)
           refine hK.out _ _ ⟨(blk_cell BK1127.out 0).trans rfl, (blk_cell BK1127.out 1).trans rfl, (blk_cell BK1127.out 2).trans rfl, (blk_cell BK1127.out 3).trans rfl, (blk_cell BK1132.out 0).trans rfl, (blk_cell BK1132.out 1).trans rfl, (blk_cell BK1132.out 2).trans rfl, (blk_cell BK1132.out 3).trans rfl, (blk_cell BK1139.out 0).trans rfl, (blk_cell BK1139.out 1).trans rfl, (blk_cell BK1139.out 2).trans rfl, (blk_cell BK1120.out 0).trans rfl, (blk_cell BK1120.out 1).trans rfl, (blk_cell BK1120.out 2).trans rfl, (blk_cell BK1146.out 0).trans rfl, (blk_cell BK1146.out 1).trans rfl, (blk_cell BK1146.out 2).trans rfl⟩ (fun hHeld => ?_)
           clear hK K
           refine norm_ (a' := ?_) ?_ ?_
           rotate_left
           ·show Act.put _ (some 64) _ = _
            exact pt_
           refine pure_ (i := 13) (N := some 66) (v := ?_) (a' := ?_) #[true, true, true, true, true, true, true, true, true, true, true, true, true, true, false, false, false, false, false, false, false, false, false, false, false, false, false, false] rfl rfl (any_of HT_.out (by kernel_rfl)) (fun _ _ _ h => h) (Or.inl ⟨by rfl, ?_⟩) ?_ ?_
           rotate_left
           ·intro w'
            go_simp
            with_reducible rfl
           rotate_left
           ·exact pt_
           refine pure_ (i := 14) (N := some 67) (v := ?_) (a' := ?_) #[true, true, true, true, true, true, true, true, true, true, true, true, true, true, true, false, false, false, false, false, false, false, false, false, false, false, false, false] rfl rfl (any_of HT_.out (by kernel_rfl)) (fun _ _ _ h => h) (Or.inl ⟨by rfl, ?_⟩) ?_ ?_
           rotate_left
           ·intro w'
            go_simp
            with_reducible rfl
           rotate_left
           ·exact pt_
           refine take_ (i := 15) (N := some 68) (v := ?_) (a' := ?_) #[true, true, true, true, true, true, true, true, true, true, true, true, true, true, true, true, false, false, false, false, false, false, false, false, false, false, false, false] rfl rfl (take_ofW HT_.out HW_.out (by kernel_rfl)) (fun _ _ _ h => h) (Or.inl ⟨by rfl, ?_⟩) hHeld ?_ ?_
           rotate_left
           ·rintro w' ⟨s0, s1, s2, s3, s4, s5, s6, s7, s8, s9, s10, s11, s12, s13, s14, s15, s16⟩
            go_simp
            with_reducible rfl
           rotate_left
           ·exact pt_
           refine take_ (i := 16) (N := some 69) (v := ?_) (a' := ?_) #[true, true, true, true, true, true, true, true, true, true, true, true, true, true, true, true, true, false, false, false, false, false, false, false, false, false, false, false] rfl rfl (take_ofW HT_.out HW_.out (by kernel_rfl)) (fun _ _ _ h => h) (Or.inl ⟨by rfl, ?_⟩) hHeld ?_ ?_
           rotate_left
           ·rintro w' ⟨s0, s1, s2, s3, s4, s5, s6, s7, s8, s9, s10, s11, s12, s13, s14, s15, s16⟩
            go_simp
            with_reducible rfl
           rotate_left
           ·exact pt_
           refine one_ (i := 17) (N := some 70) #[true, true, true, true, true, true, true, true, true, true, true, true, true, true, true, true, true, true, false, false, false, false, false, false, false, false, false, false] rfl rfl (one_of HT_.out (by kernel_rfl)) (by decide) (fun K hK => ?_)
           refine gs_ Tryd.func36 #[.agg #[.bool t1133, .slice Ao34 t1134.length co34, .int .i64 t1137], .agg #[.bool a0_0, .slice A0_1 l0_1.length c0_1, .int .i64 a0_2]] ?_
           with_reducible refine (dy_Cmp.calls kj14 t1133 _ _ t1134 t1137 a0_0 _ _ l0_1 a0_2 t1154 _ ?side1 ?side2 ?side3 ?side4 A82.out ?sidet).mono ?_
           (case sidet => exact Kd.C_below HTAB.out (bw_ HB.out))
           (case side1 => exact kc_ (Kd.R_reads' HO_1140001.out).2.2)
           (case side2 => exact (Kd.R_reads' HO_1140001.out).2.1)
           (case side3 => exact kc_ (Kd.C_below HR0_1.out HB.out))
           (case side4 => exact HC0_1.out)
           rintro e w88 ⟨rfl, hb⟩
           refine ⟨_, rfl, ?_⟩
           replace HO_1140001 := Aside0.mk (Kd.R_below (kr_ HO_1140001.out) hb)
           replace HO_1147001 := Aside0.mk (Kd.R_below (kr_ HO_1147001.out) hb)
           replace BK1120 := kq_ BK1120 hb
           replace BK1127 := kq_ BK1127 hb
           replace BK1132 := kq_ BK1132 hb
           replace BK1139 := kq_ BK1139 hb
           replace BK1146 := kq_ BK1146 hb
           replace HB := bq_ HB hb
           (try clear hb)
           (try clear hb2)
           (try clear hk)
           (try clear hi)
           refine hK.out _ _ ⟨(blk_cell BK1127.out 0).trans rfl, (blk_cell BK1127.out 1).trans rfl, (blk_cell BK1127.out 2).trans rfl, (blk_cell BK1127.out 3).trans rfl, (blk_cell BK1132.out 0).trans rfl, (blk_cell BK1132.out 1).trans rfl, (blk_cell BK1132.out 2).trans rfl, (blk_cell BK1132.out 3).trans rfl, (blk_cell BK1139.out 0).trans rfl, (blk_cell BK1139.out 1).trans rfl, (blk_cell BK1139.out 2).trans rfl, (blk_cell BK1120.out 0).trans rfl, (blk_cell BK1120.out 1).trans rfl, (blk_cell BK1120.out 2).trans rfl, (blk_cell BK1146.out 0).trans rfl, (blk_cell BK1146.out 1).trans rfl, (blk_cell BK1146.out 2).trans rfl⟩ (fun hHeld => ?_)
           clear hK K
           refine norm_ (a' := ?_) ?_ ?_
           rotate_left
           ·show Act.put _ (some 70) _ = _
            exact pt_
           refine pure_ (i := 18) (N := some 71) (v := ?_) (a' := ?_) #[true, true, true, true, true, true, true, true, true, true, true, true, true, true, true, true, true, true, true, false, false, false, false, false, false, false, false, false] rfl rfl (any_of HT_.out (by kernel_rfl)) (fun _ _ _ h => h) (Or.inl ⟨by rfl, ?_⟩) ?_ ?_
           rotate_left
           ·intro w'
            go_simp
            with_reducible rfl
           rotate_left
           ·exact pt_
           refine pure_ (i := 19) (N := some 72) (v := ?_) (a' := ?_) #[true, true, true, true, true, true, true, true, true, true, true, true, true, true, true, true, true, true, true, true, false, false, false, false, false, false, false, false] rfl rfl (any_of HT_.out (by kernel_rfl)) (fun _ _ _ h => h) (Or.inl ⟨by rfl, ?_⟩) ?_ ?_
           rotate_left
           ·intro w'
            go_simp
            with_reducible rfl
           rotate_left
           ·exact pt_
           refine pure_ (i := 20) (N := some 73) (v := ?_) (a' := ?_) #[true, true, true, true, true, true, true, true, true, true, true, true, true, true, true, true, true, true, true, true, true, false, false, false, false, false, false, false] rfl rfl (any_of HT_.out (by kernel_rfl)) (fun _ _ _ h => h) (Or.inl ⟨by rfl, ?_⟩) ?_ ?_
           rotate_left
           ·intro w'
            go_simp
            with_reducible rfl
           rotate_left
           ·exact pt_
           refine take_ (i := 21) (N := some 74) (v := ?_) (a' := ?_) #[true, true, true, true, true, true, true, true, true, true, true, true, true, true, true, true, true, true, true, true, true, true, false, false, false, false, false, false] rfl rfl (take_ofW HT_.out HW_.out (by kernel_rfl)) (fun _ _ _ h => h) (Or.inl ⟨by rfl, ?_⟩) hHeld ?_ ?_
           rotate_left
           ·rintro w' ⟨s0, s1, s2, s3, s4, s5, s6, s7, s8, s9, s10, s11, s12, s13, s14, s15, s16⟩
            go_simp
            with_reducible rfl
           rotate_left
           ·exact pt_
           refine take_ (i := 22) (N := some 75) (v := ?_) (a' := ?_) #[true, true, true, true, true, true, true, true, true, true, true, true, true, true, true, true, true, true, true, true, true, true, true, false, false, false, false, false] rfl rfl (take_ofW HT_.out HW_.out (by kernel_rfl)) (fun _ _ _ h => h) (Or.inl ⟨by rfl, ?_⟩) hHeld ?_ ?_
           rotate_left
           ·rintro w' ⟨s0, s1, s2, s3, s4, s5, s6, s7, s8, s9, s10, s11, s12, s13, s14, s15, s16⟩
            go_simp
            with_reducible rfl
           rotate_left
           ·exact pt_
           refine one_ (i := 23) (N := some 76) #[true, true, true, true, true, true, true, true, true, true, true, true, true, true, true, true, true, true, true, true, true, true, true, true, false, false, false, false] rfl rfl (one_of HT_.out (by kernel_rfl)) (by decide) (fun K hK => ?_)
           refine gs_ Tryd.func36 #[.agg #[.bool t1140, .slice Ao43 t1141.length co43, .int .i64 t1144], .agg #[.bool a0_0, .slice A0_1 l0_1.length c0_1, .int .i64 a0_2]] ?_
           with_reducible refine (dy_Cmp.calls kj14 t1140 _ _ t1141 t1144 a0_0 _ _ l0_1 a0_2 t1155 _ ?side1 ?side2 ?side3 ?side4 A84.out ?sidet).mono ?_
           (case sidet => exact Kd.C_below HTAB.out (bw_ HB.out))
           (case side1 => exact kc_ (Kd.R_reads' HO_1147001.out).2.2)
           (case side2 => exact (Kd.R_reads' HO_1147001.out).2.1)
           (case side3 => exact kc_ (Kd.C_below HR0_1.out HB.out))
           (case side4 => exact HC0_1.out)
           rintro e w89 ⟨rfl, hb⟩
           refine ⟨_, rfl, ?_⟩
           replace HO_1140001 := Aside0.mk (Kd.R_below (kr_ HO_1140001.out) hb)
           replace HO_1147001 := Aside0.mk (Kd.R_below (kr_ HO_1147001.out) hb)
           replace BK1120 := kq_ BK1120 hb
           replace BK1127 := kq_ BK1127 hb
           replace BK1132 := kq_ BK1132 hb
           replace BK1139 := kq_ BK1139 hb
           replace BK1146 := kq_ BK1146 hb
           replace HB := bq_ HB hb
           (try clear hb)
           (try clear hb2)
           (try clear hk)
           (try clear hi)
           refine hK.out _ _ ⟨(blk_cell BK1127.out 0).trans rfl, (blk_cell BK1127.out 1).trans rfl, (blk_cell BK1127.out 2).trans rfl, (blk_cell BK1127.out 3).trans rfl, (blk_cell BK1132.out 0).trans rfl, (blk_cell BK1132.out 1).trans rfl, (blk_cell BK1132.out 2).trans rfl, (blk_cell BK1132.out 3).trans rfl, (blk_cell BK1139.out 0).trans rfl, (blk_cell BK1139.out 1).trans rfl, (blk_cell BK1139.out 2).trans rfl, (blk_cell BK1120.out 0).trans rfl, (blk_cell BK1120.out 1).trans rfl, (blk_cell BK1120.out 2).trans rfl, (blk_cell BK1146.out 0).trans rfl, (blk_cell BK1146.out 1).trans rfl, (blk_cell BK1146.out 2).trans rfl⟩ (fun hHeld => ?_)
           clear hK K
           refine norm_ (a' := ?_) ?_ ?_
           rotate_left
           ·show Act.put _ (some 76) _ = _
            exact pt_
           refine pure_ (i := 24) (N := some 77) (v := ?_) (a' := ?_) #[true, true, true, true, true, true, true, true, true, true, true, true, true, true, true, true, true, true, true, true, true, true, true, true, true, false, false, false] rfl rfl (any_of HT_.out (by kernel_rfl)) (fun _ _ _ h => h) (Or.inl ⟨by rfl, ?_⟩) ?_ ?_
           rotate_left
           ·intro w'
            go_simp
            with_reducible rfl
           rotate_left
           ·exact pt_
           refine pure_ (i := 25) (N := some 78) (v := ?_) (a' := ?_) #[true, true, true, true, true, true, true, true, true, true, true, true, true, true, true, true, true, true, true, true, true, true, true, true, true, true, false, false] rfl rfl (any_of HT_.out (by kernel_rfl)) (fun _ _ _ h => h) (Or.inl ⟨by rfl, ?_⟩) ?_ ?_
           rotate_left
           ·intro w'
            go_simp
            with_reducible rfl
           rotate_left
           ·exact pt_
           refine pure_ (i := 26) (N := some 79) (v := ?_) (a' := ?_) #[true, true, true, true, true, true, true, true, true, true, true, true, true, true, true, true, true, true, true, true, true, true, true, true, true, true, true, false] rfl rfl (any_of HT_.out (by kernel_rfl)) (fun _ _ _ h => h) (Or.inl ⟨by rfl, ?_⟩) ?_ ?_
           rotate_left
           ·intro w'
            go_simp
            with_reducible rfl
           rotate_left
           ·exact pt_
           refine pure_ (i := 27) (N := some 2) (v := ?_) (a' := ?_) #[true, true, true, true, true, true, true, true, true, true, true, true, true, true, true, true, true, true, true, true, true, true, true, true, true, true, true, true] rfl rfl (any_of HT_.out (by kernel_rfl)) (fun _ _ _ h => h) (Or.inl ⟨by rfl, ?_⟩) ?_ ?_
           rotate_left
           ·intro w'
            go_simp
            with_reducible rfl
           rotate_left
           ·exact pt_
           refine done_ (done_of HT_.out (by kernel_rfl)) ?_
           try go_wp2
           go_ret
           exact ⟨rf_, bw_ HB.out⟩
          ·rw [if_neg c83] at H
           have c83b0 : decide (t1154 < 0) = false := decide_eq_false c83
           clear c83
           exact absurd ((Option.some.inj H).trans HRT_.out) (by simp)
         ·rw [if_neg c81] at H
          have c81b0 : (t1150 == t1128 && (t1151 == t1129 && (t1152 == t1130 && (t1153 == t1131)))) = false := by simpa using c81
          (try (have c81b1 : decide (t1150 = t1128 && (t1151 == t1129 && (t1152 == t1130 && (t1153 == t1131)))) = false := by simpa using c81))
          (try (have c81b2 : (t1150 == t1128 && (t1151 == t1129 && (t1152 == t1130 && (t1153 == t1131)))) = false := by simpa using c81))
          (try (have c81b3 : ¬ (t1150 = t1128 && (t1151 == t1129 && (t1152 == t1130 && (t1153 == t1131)))) := by simpa using c81))
          clear c81
          exact absurd ((Option.some.inj H).trans HRT_.out) (by simp)
       ·rw [if_neg c75] at H
        have c75b0 : (t1123 == t1128 && (t1124 == t1129 && (t1125 == t1130 && (t1126 == t1131)))) = false := by simpa using c75
        (try (have c75b1 : decide (t1123 = t1128 && (t1124 == t1129 && (t1125 == t1130 && (t1126 == t1131)))) = false := by simpa using c75))
        (try (have c75b2 : (t1123 == t1128 && (t1124 == t1129 && (t1125 == t1130 && (t1126 == t1131)))) = false := by simpa using c75))
        (try (have c75b3 : ¬ (t1123 = t1128 && (t1124 == t1129 && (t1125 == t1130 && (t1126 == t1131)))) := by simpa using c75))
        clear c75
        replace H := Option.bind_eq_some_iff.mp H
        obtain ⟨⟨t1156, t1157, t1158, t1159⟩, A900, H⟩ := H
        (try dsimp only at H)
        have A90 := Aside0.mk A900
        clear A900
        by_cases c91 : (t1156 == t1128 && (t1157 == t1129 && (t1158 == t1130 && (t1159 == t1131)))) = true
        ·rw [if_pos c91] at H
         have c91b0 : (t1156 == t1128 && (t1157 == t1129 && (t1158 == t1130 && (t1159 == t1131)))) = true := c91
         (try (have c91b1 : decide (t1156 = t1128 && (t1157 == t1129 && (t1158 == t1130 && (t1159 == t1131)))) = true := by simpa using c91))
         (try (have c91b2 : (t1156 == t1128 && (t1157 == t1129 && (t1158 == t1130 && (t1159 == t1131)))) = true := by simpa using c91))
         clear c91
         replace H := Option.bind_eq_some_iff.mp H
         obtain ⟨t1160, A920, H⟩ := H
         (try dsimp only at H)
         have A92 := Aside0.mk A920
         clear A920
         by_cases c93 : t1160 < 0
         ·rw [if_pos c93] at H
          have c93b0 : decide (t1160 < 0) = true := decide_eq_true c93
          clear c93
          replace H := Option.bind_eq_some_iff.mp H
          obtain ⟨t1161, A940, H⟩ := H
          (try dsimp only at H)
          have A94 := Aside0.mk A940
          clear A940
          obtain rfl := Option.some.inj H
          try go_wp2
          replace HO_1140001 := Aside0.mk (Kd.R_drew HO_1140001.out)
          replace HO_1147001 := Aside0.mk (Kd.R_drew HO_1147001.out)
          replace BK1120 := Aside0.mk (blk_drew BK1120.out)
          replace BK1127 := Aside0.mk (blk_drew BK1127.out)
          replace BK1132 := Aside0.mk (blk_drew BK1132.out)
          replace BK1139 := Aside0.mk (blk_drew BK1139.out)
          replace BK1146 := Aside0.mk (blk_drew BK1146.out)
          replace HB := Aside0.mk (below_drew1 HB.out)
          refine start_ (n := 28) (S := fun w' => w'.cell? ⟨gb1127, 0, none⟩ = some (.int .i64 t1123) ∧ w'.cell? ⟨gb1127, 1, none⟩ = some (.bool t1124) ∧ w'.cell? ⟨gb1127, 2, none⟩ = some (.int .u64 t1125) ∧ w'.cell? ⟨gb1127, 3, none⟩ = some (.int .i64 t1126) ∧ w'.cell? ⟨gb1132, 0, none⟩ = some (.int .i64 t1128) ∧ w'.cell? ⟨gb1132, 1, none⟩ = some (.bool t1129) ∧ w'.cell? ⟨gb1132, 2, none⟩ = some (.int .u64 t1130) ∧ w'.cell? ⟨gb1132, 3, none⟩ = some (.int .i64 t1131) ∧ w'.cell? ⟨gb1139, 0, none⟩ = some (.bool t1133) ∧ w'.cell? ⟨gb1139, 1, none⟩ = some (.slice Ao34 t1134.length co34) ∧ w'.cell? ⟨gb1139, 2, none⟩ = some (.int .i64 t1137) ∧ w'.cell? ⟨gb1120, 0, none⟩ = some (.bool a0_0) ∧ w'.cell? ⟨gb1120, 1, none⟩ = some (.slice A0_1 l0_1.length c0_1) ∧ w'.cell? ⟨gb1120, 2, none⟩ = some (.int .i64 a0_2) ∧ w'.cell? ⟨gb1146, 0, none⟩ = some (.bool t1140) ∧ w'.cell? ⟨gb1146, 1, none⟩ = some (.slice Ao43 t1141.length co43) ∧ w'.cell? ⟨gb1146, 2, none⟩ = some (.int .i64 t1144)) (ds := []) #[false, false, false, false, false, false, false, false, false, false, false, false, false, false, false, false, false, false, false, false, false, false, false, false, false, false, false, false] (by kernel_rfl) rfl rfl ⟨(blk_cell BK1127.out 0).trans rfl, (blk_cell BK1127.out 1).trans rfl, (blk_cell BK1127.out 2).trans rfl, (blk_cell BK1127.out 3).trans rfl, (blk_cell BK1132.out 0).trans rfl, (blk_cell BK1132.out 1).trans rfl, (blk_cell BK1132.out 2).trans rfl, (blk_cell BK1132.out 3).trans rfl, (blk_cell BK1139.out 0).trans rfl, (blk_cell BK1139.out 1).trans rfl, (blk_cell BK1139.out 2).trans rfl, (blk_cell BK1120.out 0).trans rfl, (blk_cell BK1120.out 1).trans rfl, (blk_cell BK1120.out 2).trans rfl, (blk_cell BK1146.out 0).trans rfl, (blk_cell BK1146.out 1).trans rfl, (blk_cell BK1146.out 2).trans rfl⟩ (fun hHeld => ?_); refine with_tabW peloruslaw05_NumTight.tab11 peloruslaw05_NumTight.bits11 (fun HT_ HW_ => ?_)
          generalize wc.drew = w95 at HO_1140001 HO_1147001 BK1120 BK1127 BK1132 BK1139 BK1146 HB hHeld ⊢
          refine take_ (i := 0) (N := some 53) (v := ?_) (a' := ?_) #[true, false, false, false, false, false, false, false, false, false, false, false, false, false, false, false, false, false, false, false, false, false, false, false, false, false, false, false] rfl rfl (take_ofW HT_.out HW_.out (by kernel_rfl)) (fun _ _ _ h => h) (Or.inl ⟨by rfl, ?_⟩) hHeld ?_ ?_
          rotate_left
          ·rintro w' ⟨s0, s1, s2, s3, s4, s5, s6, s7, s8, s9, s10, s11, s12, s13, s14, s15, s16⟩
           go_simp
           with_reducible rfl
          rotate_left
          ·exact pt_
          refine take_ (i := 1) (N := some 54) (v := ?_) (a' := ?_) #[true, true, false, false, false, false, false, false, false, false, false, false, false, false, false, false, false, false, false, false, false, false, false, false, false, false, false, false] rfl rfl (take_ofW HT_.out HW_.out (by kernel_rfl)) (fun _ _ _ h => h) (Or.inl ⟨by rfl, ?_⟩) hHeld ?_ ?_
          rotate_left
          ·rintro w' ⟨s0, s1, s2, s3, s4, s5, s6, s7, s8, s9, s10, s11, s12, s13, s14, s15, s16⟩
           go_simp
           with_reducible rfl
          rotate_left
          ·exact pt_
          refine pure_ (i := 2) (N := some 55) (v := ?_) (a' := ?_) #[true, true, true, false, false, false, false, false, false, false, false, false, false, false, false, false, false, false, false, false, false, false, false, false, false, false, false, false] rfl rfl (any_of HT_.out (by kernel_rfl)) (fun _ _ _ h => h) (Or.inl ⟨by rfl, ?_⟩) ?_ ?_
          rotate_left
          ·intro w'
           go_simp
           with_reducible rfl
          rotate_left
          ·exact pt_
          refine pure_ (i := 3) (N := some 56) (v := ?_) (a' := ?_) #[true, true, true, true, false, false, false, false, false, false, false, false, false, false, false, false, false, false, false, false, false, false, false, false, false, false, false, false] rfl rfl (any_of HT_.out (by kernel_rfl)) (fun _ _ _ h => h) (Or.inl ⟨by rfl, ?_⟩) ?_ ?_
          rotate_left
          ·intro w'
           go_simp
           with_reducible rfl
          rotate_left
          ·exact pt_
          refine pure_ (i := 4) (N := some 57) (v := undef) (a' := ?_) #[true, true, true, true, true, false, false, false, false, false, false, false, false, false, false, false, false, false, false, false, false, false, false, false, false, false, false, false] rfl rfl (any_of HT_.out (by kernel_rfl)) (fun _ _ _ h => h) (Or.inr ⟨by rfl, rfl⟩) ?_ ?_
          rotate_left
          ·exact pt_
          refine pure_ (i := 5) (N := some 58) (v := undef) (a' := ?_) #[true, true, true, true, true, true, false, false, false, false, false, false, false, false, false, false, false, false, false, false, false, false, false, false, false, false, false, false] rfl rfl (any_of HT_.out (by kernel_rfl)) (fun _ _ _ h => h) (Or.inr ⟨by rfl, rfl⟩) ?_ ?_
          rotate_left
          ·exact pt_
          refine pure_ (i := 6) (N := some 59) (v := undef) (a' := ?_) #[true, true, true, true, true, true, true, false, false, false, false, false, false, false, false, false, false, false, false, false, false, false, false, false, false, false, false, false] rfl rfl (any_of HT_.out (by kernel_rfl)) (fun _ _ _ h => h) (Or.inr ⟨by rfl, rfl⟩) ?_ ?_
          rotate_left
          ·exact pt_
          refine pure_ (i := 7) (N := some 60) (v := undef) (a' := ?_) #[true, true, true, true, true, true, true, true, false, false, false, false, false, false, false, false, false, false, false, false, false, false, false, false, false, false, false, false] rfl rfl (any_of HT_.out (by kernel_rfl)) (fun _ _ _ h => h) (Or.inr ⟨by rfl, rfl⟩) ?_ ?_
          rotate_left
          ·exact pt_
          refine pure_ (i := 8) (N := some 61) (v := ?_) (a' := ?_) #[true, true, true, true, true, true, true, true, true, false, false, false, false, false, false, false, false, false, false, false, false, false, false, false, false, false, false, false] rfl rfl (any_of HT_.out (by kernel_rfl)) (fun _ _ _ h => h) (Or.inl ⟨by rfl, ?_⟩) ?_ ?_
          rotate_left
          ·intro w'
           go_simp
           with_reducible rfl
          rotate_left
          ·exact pt_
          refine pure_ (i := 9) (N := some 62) (v := ?_) (a' := ?_) #[true, true, true, true, true, true, true, true, true, true, false, false, false, false, false, false, false, false, false, false, false, false, false, false, false, false, false, false] rfl rfl (any_of HT_.out (by kernel_rfl)) (fun _ _ _ h => h) (Or.inl ⟨by rfl, ?_⟩) ?_ ?_
          rotate_left
          ·intro w'
           go_simp
           with_reducible rfl
          rotate_left
          ·exact pt_
          refine take_ (i := 10) (N := some 63) (v := ?_) (a' := ?_) #[true, true, true, true, true, true, true, true, true, true, true, false, false, false, false, false, false, false, false, false, false, false, false, false, false, false, false, false] rfl rfl (take_ofW HT_.out HW_.out (by kernel_rfl)) (fun _ _ _ h => h) (Or.inl ⟨by rfl, ?_⟩) hHeld ?_ ?_
          rotate_left
          ·rintro w' ⟨s0, s1, s2, s3, s4, s5, s6, s7, s8, s9, s10, s11, s12, s13, s14, s15, s16⟩
           go_simp
           with_reducible rfl
          rotate_left
          ·exact pt_
          refine take_ (i := 12) (N := some 65) (v := ?_) (a' := ?_) #[true, true, true, true, true, true, true, true, true, true, true, false, true, false, false, false, false, false, false, false, false, false, false, false, false, false, false, false] rfl rfl (take_ofW HT_.out HW_.out (by kernel_rfl)) (fun _ _ _ h => h) (Or.inl ⟨by rfl, ?_⟩) hHeld ?_ ?_
          rotate_left
          ·rintro w' ⟨s0, s1, s2, s3, s4, s5, s6, s7, s8, s9, s10, s11, s12, s13, s14, s15, s16⟩
           go_simp
           with_reducible rfl
          rotate_left
          ·exact pt_
          refine one_ (i := 11) (N := some 64) #[true, true, true, true, true, true, true, true, true, true, true, true, true, false, false, false, false, false, false, false, false, false, false, false, false, false, false, false] rfl rfl (one_of HT_.out (by kernel_rfl)) (by decide) (fun K hK => ?_)
          refine gs_ Tryd.func24 #[.agg #[.int .i64 t1123, .bool t1124, .int .u64 t1125, .int .i64 t1126], .bool true] ?_
          with_reducible refine (num_Next.calls kj14 t1123 t1124 t1125 t1126 true t1156 t1157 t1158 t1159 _ A90.out).mono ?_
          rintro e w96 ⟨rfl, hb⟩
          refine ⟨_, rfl, ?_⟩
          replace HO_1140001 := Aside0.mk (Kd.R_below (kr_ HO_1140001.out) hb)
          replace HO_1147001 := Aside0.mk (Kd.R_below (kr_ HO_1147001.out) hb)
          replace BK1120 := kq_ BK1120 hb
          replace BK1127 := kq_ BK1127 hb
          replace BK1132 := kq_ BK1132 hb
          replace BK1139 := kq_ BK1139 hb
          replace BK1146 := kq_ BK1146 hb
          replace HB := bq_ HB hb
          (try clear hb)
          (try clear hb2)
          (try clear hk)
          (try clear hi)
          refine hK.out _ _ ⟨(blk_cell BK1127.out 0).trans rfl, (blk_cell BK1127.out 1).trans rfl, (blk_cell BK1127.out 2).trans rfl, (blk_cell BK1127.out 3).trans rfl, (blk_cell BK1132.out 0).trans rfl, (blk_cell BK1132.out 1).trans rfl, (blk_cell BK1132.out 2).trans rfl, (blk_cell BK1132.out 3).trans rfl, (blk_cell BK1139.out 0).trans rfl, (blk_cell BK1139.out 1).trans rfl, (blk_cell BK1139.out 2).trans rfl, (blk_cell BK1120.out 0).trans rfl, (blk_cell BK1120.out 1).trans rfl, (blk_cell BK1120.out 2).trans rfl, (blk_cell BK1146.out 0).trans rfl, (blk_cell BK1146.out 1).trans rfl, (blk_cell BK1146.out 2).trans rfl⟩ (fun hHeld => ?_)
          clear hK K
          refine norm_ (a' := ?_) ?_ ?_
          rotate_left
          ·show Act.put _ (some 64) _ = _
           exact pt_
          refine pure_ (i := 13) (N := some 66) (v := ?_) (a' := ?_) #[true, true, true, true, true, true, true, true, true, true, true, true, true, true, false, false, false, false, false, false, false, false, false, false, false, false, false, false] rfl rfl (any_of HT_.out (by kernel_rfl)) (fun _ _ _ h => h) (Or.inl ⟨by rfl, ?_⟩) ?_ ?_
          rotate_left
          ·intro w'
           go_simp
           with_reducible rfl
          rotate_left
          ·exact pt_
          refine pure_ (i := 14) (N := some 67) (v := ?_) (a' := ?_) #[true, true, true, true, true, true, true, true, true, true, true, true, true, true, true, false, false, false, false, false, false, false, false, false, false, false, false, false] rfl rfl (any_of HT_.out (by kernel_rfl)) (fun _ _ _ h => h) (Or.inl ⟨by rfl, ?_⟩) ?_ ?_
          rotate_left
          ·intro w'
           go_simp
           with_reducible rfl
          rotate_left
          ·exact pt_
          refine take_ (i := 15) (N := some 68) (v := ?_) (a' := ?_) #[true, true, true, true, true, true, true, true, true, true, true, true, true, true, true, true, false, false, false, false, false, false, false, false, false, false, false, false] rfl rfl (take_ofW HT_.out HW_.out (by kernel_rfl)) (fun _ _ _ h => h) (Or.inl ⟨by rfl, ?_⟩) hHeld ?_ ?_
          rotate_left
          ·rintro w' ⟨s0, s1, s2, s3, s4, s5, s6, s7, s8, s9, s10, s11, s12, s13, s14, s15, s16⟩
           go_simp
           with_reducible rfl
          rotate_left
          ·exact pt_
          refine take_ (i := 16) (N := some 69) (v := ?_) (a' := ?_) #[true, true, true, true, true, true, true, true, true, true, true, true, true, true, true, true, true, false, false, false, false, false, false, false, false, false, false, false] rfl rfl (take_ofW HT_.out HW_.out (by kernel_rfl)) (fun _ _ _ h => h) (Or.inl ⟨by rfl, ?_⟩) hHeld ?_ ?_
          rotate_left
          ·rintro w' ⟨s0, s1, s2, s3, s4, s5, s6, s7, s8, s9, s10, s11, s12, s13, s14, s15, s16⟩
           go_simp
           with_reducible rfl
          rotate_left
          ·exact pt_
          refine one_ (i := 17) (N := some 70) #[true, true, true, true, true, true, true, true, true, true, true, true, true, true, true, true, true, true, false, false, false, false, false, false, false, false, false, false] rfl rfl (one_of HT_.out (by kernel_rfl)) (by decide) (fun K hK => ?_)
          refine gs_ Tryd.func36 #[.agg #[.bool t1133, .slice Ao34 t1134.length co34, .int .i64 t1137], .agg #[.bool a0_0, .slice A0_1 l0_1.length c0_1, .int .i64 a0_2]] ?_
          with_reducible refine (dy_Cmp.calls kj14 t1133 _ _ t1134 t1137 a0_0 _ _ l0_1 a0_2 t1160 _ ?side1 ?side2 ?side3 ?side4 A92.out ?sidet).mono ?_
          (case sidet => exact Kd.C_below HTAB.out (bw_ HB.out))
          (case side1 => exact kc_ (Kd.R_reads' HO_1140001.out).2.2)
          (case side2 => exact (Kd.R_reads' HO_1140001.out).2.1)
          (case side3 => exact kc_ (Kd.C_below HR0_1.out HB.out))
          (case side4 => exact HC0_1.out)
          rintro e w97 ⟨rfl, hb⟩
          refine ⟨_, rfl, ?_⟩
          replace HO_1140001 := Aside0.mk (Kd.R_below (kr_ HO_1140001.out) hb)
          replace HO_1147001 := Aside0.mk (Kd.R_below (kr_ HO_1147001.out) hb)
          replace BK1120 := kq_ BK1120 hb
          replace BK1127 := kq_ BK1127 hb
          replace BK1132 := kq_ BK1132 hb
          replace BK1139 := kq_ BK1139 hb
          replace BK1146 := kq_ BK1146 hb
          replace HB := bq_ HB hb
          (try clear hb)
          (try clear hb2)
          (try clear hk)
          (try clear hi)
          refine hK.out _ _ ⟨(blk_cell BK1127.out 0).trans rfl, (blk_cell BK1127.out 1).trans rfl, (blk_cell BK1127.out 2).trans rfl, (blk_cell BK1127.out 3).trans rfl, (blk_cell BK1132.out 0).trans rfl, (blk_cell BK1132.out 1).trans rfl, (blk_cell BK1132.out 2).trans rfl, (blk_cell BK1132.out 3).trans rfl, (blk_cell BK1139.out 0).trans rfl, (blk_cell BK1139.out 1).trans rfl, (blk_cell BK1139.out 2).trans rfl, (blk_cell BK1120.out 0).trans rfl, (blk_cell BK1120.out 1).trans rfl, (blk_cell BK1120.out 2).trans rfl, (blk_cell BK1146.out 0).trans rfl, (blk_cell BK1146.out 1).trans rfl, (blk_cell BK1146.out 2).trans rfl⟩ (fun hHeld => ?_)
          clear hK K
          refine norm_ (a' := ?_) ?_ ?_
          rotate_left
          ·show Act.put _ (some 70) _ = _
           exact pt_
          refine pure_ (i := 18) (N := some 71) (v := ?_) (a' := ?_) #[true, true, true, true, true, true, true, true, true, true, true, true, true, true, true, true, true, true, true, false, false, false, false, false, false, false, false, false] rfl rfl (any_of HT_.out (by kernel_rfl)) (fun _ _ _ h => h) (Or.inl ⟨by rfl, ?_⟩) ?_ ?_
          rotate_left
          ·intro w'
           go_simp
           with_reducible rfl
          rotate_left
          ·exact pt_
          refine pure_ (i := 19) (N := some 72) (v := ?_) (a' := ?_) #[true, true, true, true, true, true, true, true, true, true, true, true, true, true, true, true, true, true, true, true, false, false, false, false, false, false, false, false] rfl rfl (any_of HT_.out (by kernel_rfl)) (fun _ _ _ h => h) (Or.inl ⟨by rfl, ?_⟩) ?_ ?_
          rotate_left
          ·intro w'
           go_simp
           with_reducible rfl
          rotate_left
          ·exact pt_
          refine pure_ (i := 20) (N := some 73) (v := ?_) (a' := ?_) #[true, true, true, true, true, true, true, true, true, true, true, true, true, true, true, true, true, true, true, true, true, false, false, false, false, false, false, false] rfl rfl (any_of HT_.out (by kernel_rfl)) (fun _ _ _ h => h) (Or.inl ⟨by rfl, ?_⟩) ?_ ?_
          rotate_left
          ·intro w'
           go_simp
           with_reducible rfl
          rotate_left
          ·exact pt_
          refine take_ (i := 21) (N := some 74) (v := ?_) (a' := ?_) #[true, true, true, true, true, true, true, true, true, true, true, true, true, true, true, true, true, true, true, true, true, true, false, false, false, false, false, false] rfl rfl (take_ofW HT_.out HW_.out (by kernel_rfl)) (fun _ _ _ h => h) (Or.inl ⟨by rfl, ?_⟩) hHeld ?_ ?_
          rotate_left
          ·rintro w' ⟨s0, s1, s2, s3, s4, s5, s6, s7, s8, s9, s10, s11, s12, s13, s14, s15, s16⟩
           go_simp
           with_reducible rfl
          rotate_left
          ·exact pt_
          refine take_ (i := 22) (N := some 75) (v := ?_) (a' := ?_) #[true, true, true, true, true, true, true, true, true, true, true, true, true, true, true, true, true, true, true, true, true, true, true, false, false, false, false, false] rfl rfl (take_ofW HT_.out HW_.out (by kernel_rfl)) (fun _ _ _ h => h) (Or.inl ⟨by rfl, ?_⟩) hHeld ?_ ?_
          rotate_left
          ·rintro w' ⟨s0, s1, s2, s3, s4, s5, s6, s7, s8, s9, s10, s11, s12, s13, s14, s15, s16⟩
           go_simp
           with_reducible rfl
          rotate_left
          ·exact pt_
          refine one_ (i := 23) (N := some 76) #[true, true, true, true, true, true, true, true, true, true, true, true, true, true, true, true, true, true, true, true, true, true, true, true, false, false, false, false] rfl rfl (one_of HT_.out (by kernel_rfl)) (by decide) (fun K hK => ?_)
          refine gs_ Tryd.func36 #[.agg #[.bool t1140, .slice Ao43 t1141.length co43, .int .i64 t1144], .agg #[.bool a0_0, .slice A0_1 l0_1.length c0_1, .int .i64 a0_2]] ?_
          with_reducible refine (dy_Cmp.calls kj14 t1140 _ _ t1141 t1144 a0_0 _ _ l0_1 a0_2 t1161 _ ?side1 ?side2 ?side3 ?side4 A94.out ?sidet).mono ?_
          (case sidet => exact Kd.C_below HTAB.out (bw_ HB.out))
          (case side1 => exact kc_ (Kd.R_reads' HO_1147001.out).2.2)
          (case side2 => exact (Kd.R_reads' HO_1147001.out).2.1)
          (case side3 => exact kc_ (Kd.C_below HR0_1.out HB.out))
          (case side4 => exact HC0_1.out)
          rintro e w98 ⟨rfl, hb⟩
          refine ⟨_, rfl, ?_⟩
          replace HO_1140001 := Aside0.mk (Kd.R_below (kr_ HO_1140001.out) hb)
          replace HO_1147001 := Aside0.mk (Kd.R_below (kr_ HO_1147001.out) hb)
          replace BK1120 := kq_ BK1120 hb
          replace BK1127 := kq_ BK1127 hb
          replace BK1132 := kq_ BK1132 hb
          replace BK1139 := kq_ BK1139 hb
          replace BK1146 := kq_ BK1146 hb
          replace HB := bq_ HB hb
          (try clear hb)
          (try clear hb2)
          (try clear hk)
          (try clear hi)
          refine hK.out _ _ ⟨(blk_cell BK1127.out 0).trans rfl, (blk_cell BK1127.out 1).trans rfl, (blk_cell BK1127.out 2).trans rfl, (blk_cell BK1127.out 3).trans rfl, (blk_cell BK1132.out 0).trans rfl, (blk_cell BK1132.out 1).trans rfl, (blk_cell BK1132.out 2).trans rfl, (blk_cell BK1132.out 3).trans rfl, (blk_cell BK1139.out 0).trans rfl, (blk_cell BK1139.out 1).trans rfl, (blk_cell BK1139.out 2).trans rfl, (blk_cell BK1120.out 0).trans rfl, (blk_cell BK1120.out 1).trans rfl, (blk_cell BK1120.out 2).trans rfl, (blk_cell BK1146.out 0).trans rfl, (blk_cell BK1146.out 1).trans rfl, (blk_cell BK1146.out 2).trans rfl⟩ (fun hHeld => ?_)
          clear hK K
          refine norm_ (a' := ?_) ?_ ?_
          rotate_left
          ·show Act.put _ (some 76) _ = _
           exact pt_
          refine pure_ (i := 24) (N := some 77) (v := ?_) (a' := ?_) #[true, true, true, true, true, true, true, true, true, true, true, true, true, true, true, true, true, true, true, true, true, true, true, true, true, false, false, false] rfl rfl (any_of HT_.out (by kernel_rfl)) (fun _ _ _ h => h) (Or.inl ⟨by rfl, ?_⟩) ?_ ?_
          rotate_left
          ·intro w'
           go_simp
           with_reducible rfl
          rotate_left
          ·exact pt_
          refine pure_ (i := 25) (N := some 78) (v := ?_) (a' := ?_) #[true, true, true, true, true, true, true, true, true, true, true, true, true, true, true, true, true, true, true, true, true, true, true, true, true, true, false, false] rfl rfl (any_of HT_.out (by kernel_rfl)) (fun _ _ _ h => h) (Or.inl ⟨by rfl, ?_⟩) ?_ ?_
          rotate_left
          ·intro w'
           go_simp
           with_reducible rfl
          rotate_left
          ·exact pt_
          refine pure_ (i := 26) (N := some 79) (v := ?_) (a' := ?_) #[true, true, true, true, true, true, true, true, true, true, true, true, true, true, true, true, true, true, true, true, true, true, true, true, true, true, true, false] rfl rfl (any_of HT_.out (by kernel_rfl)) (fun _ _ _ h => h) (Or.inl ⟨by rfl, ?_⟩) ?_ ?_
          rotate_left
          ·intro w'
           go_simp
           with_reducible rfl
          rotate_left
          ·exact pt_
          refine pure_ (i := 27) (N := some 2) (v := ?_) (a' := ?_) #[true, true, true, true, true, true, true, true, true, true, true, true, true, true, true, true, true, true, true, true, true, true, true, true, true, true, true, true] rfl rfl (any_of HT_.out (by kernel_rfl)) (fun _ _ _ h => h) (Or.inl ⟨by rfl, ?_⟩) ?_ ?_
          rotate_left
          ·intro w'
           go_simp
           with_reducible rfl
          rotate_left
          ·exact pt_
          refine done_ (done_of HT_.out (by kernel_rfl)) ?_
          try go_wp2
          go_ret
          exact ⟨rf_, bw_ HB.out⟩
         ·rw [if_neg c93] at H
          have c93b0 : decide (t1160 < 0) = false := decide_eq_false c93
          clear c93
          exact absurd ((Option.some.inj H).trans HRT_.out) (by simp)
        ·rw [if_neg c91] at H
         have c91b0 : (t1156 == t1128 && (t1157 == t1129 && (t1158 == t1130 && (t1159 == t1131)))) = false := by simpa using c91
         (try (have c91b1 : decide (t1156 = t1128 && (t1157 == t1129 && (t1158 == t1130 && (t1159 == t1131)))) = false := by simpa using c91))
         (try (have c91b2 : (t1156 == t1128 && (t1157 == t1129 && (t1158 == t1130 && (t1159 == t1131)))) = false := by simpa using c91))
         (try (have c91b3 : ¬ (t1156 = t1128 && (t1157 == t1129 && (t1158 == t1130 && (t1159 == t1131)))) := by simpa using c91))
         clear c91
         exact absurd ((Option.some.inj H).trans HRT_.out) (by simp)


end Go.Proofs.YtkemnoejpbknhaaDoor.PA
