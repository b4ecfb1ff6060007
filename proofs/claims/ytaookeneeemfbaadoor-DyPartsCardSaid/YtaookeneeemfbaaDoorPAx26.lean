-- Laid by this work's own program; Lean checks it.
import Derived.Test.YtaookeneeemfbaaDoorPAx0
import Derived.Test.YtaookeneeemfbaaDoorPAx1
import Derived.Test.YtaookeneeemfbaaDoorPAx3
import Derived.Test.YtaookeneeemfbaaDoorPAx7
import Derived.Test.YtaookeneeemfbaaDoorPAx8
import Derived.Test.YtaookeneeemfbaaDoorPAx9
import Derived.Test.YtaookeneeemfbaaDoorPAx14
import Derived.Test.YtaookeneeemfbaaDoorPAx21
namespace Go.Proofs.YtaookeneeemfbaaDoor.PA
open Go.RowKit Go.Proofs.YtaookeneeemfbaaDoorW.PrintWords Go.Proofs.YtaookeneeemfbaaDoorW.PrintLast Go.Proofs.YtaookeneeemfbaaDoorW.PrintMore
attribute [local go_sem] max2_int min2_int max_two min_two max_three min_three max_four min_four   -- for this text's walks alone
set_option linter.unusedVariables false
set_option linter.unusedSimpArgs false

attribute [local go_sem ↓ high] isSome_set_
/-! ### peloruslaw03_DyParts: function 8 -/
theorem peloruslaw03_DyParts.tab7 : rtab .any (opsOf Tryd.f8 7) = peloruslaw03_DyParts.T7 := by kernel_rfl
theorem peloruslaw03_DyParts.bits7 : waitsOk peloruslaw03_DyParts.T7.2 peloruslaw03_DyParts.B7 = true := by kernel_rfl
set_option maxHeartbeats 8000000 in
set_option maxRecDepth 100000 in
theorem peloruslaw03_DyParts.calls (k : Nat) (a0_0 : Bool) (A0_1 : Option Addr) (c0_1 : Nat) (l0_1 : List Int) (a0_2 : Int) (r : Bool) (w : World) (hr0_1 : Kd.C (Kd.int .u32) w A0_1 l0_1.length l0_1) (hc0_1 : l0_1.length ≤ c0_1) (hr_ : r = true) (haw_ : ∀ r, peloruslaw03_awake.f k = some r → r = true) (h : peloruslaw03_DyParts.f k a0_0 l0_1 a0_2 = some r) (htab_ : Kd.C (Kd.int .u8) w (some ⟨0, 0, none⟩) 32 tz32tab) :
  Calls Tryd.prog 8 #[.agg #[.bool a0_0, .slice A0_1 l0_1.length c0_1, .int .i64 a0_2]] w fun e w' => e = .returned (.bool r) ∧ Below w.heap.size w w' := by
 have HTAB := Aside0.mk htab_
 clear htab_
 have HRT_ := Aside0.mk hr_
 clear hr_
 have HAW_ := Aside0.mk haw_
 clear haw_
 have hu27 := Tryd.underlying27
 have HR0_1 := Aside0.mk hr0_1
 have HC0_1 := Aside0.mk hc0_1
 clear hr0_1 hc0_1
 have HB := Aside0.mk (Below.refl w.heap.size w)
 have H : ((peloruslaw03_awake.f k).bind fun t1157 => ((peloruslaw03_Few.f a0_0 l0_1 a0_2).bind fun t1158 => (if t1157 = true then (peloruslaw03_DyParts.j0 k t1157 (!t1158) a0_0 l0_1 a0_2) else (peloruslaw03_DyParts.j0 k t1157 true a0_0 l0_1 a0_2)))) = some r := h
 clear h
 replace H := Option.bind_eq_some_iff.mp H
 obtain ⟨t1157, A20, H⟩ := H
 (try dsimp only at H)
 have A2 := Aside0.mk A20
 clear A20
 replace H := Option.bind_eq_some_iff.mp H
 obtain ⟨t1158, A30, H⟩ := H
 (try dsimp only at H)
 have A3 := Aside0.mk A30
 clear A30
 have HC4 := Aside0.mk H
 clear H
 go_enter Tryd.func8, Tryd.ntmps8
 go_upto_region 3 with (first | ((with_reducible refine gate_dst (N := 1) rfl ?_); (try (refine gate_guard (by rfl) ?_; dsimp only)); refine bx_ 1 #[.bool a0_0, .slice A0_1 l0_1.length c0_1, .int .i64 a0_2] 27 ?_; intro gb1156 hg w5 hbox hb; have BK1156 := Aside0.mk (hbox); have GW1156 := ge_ hg HB; have GE1156 := ge_ hg HB; replace HB := bq_ HB hb; clear hb hbox hg) | ((with_reducible refine gate_callee (f := 9) rfl ?_); refine gl_ (some 7) Tryd.func9 #[] ?_; (with_reducible refine (peloruslaw03_awake.calls k  t1157 _ (HAW_.out _ A2.out) A2.out ?sidet).mono ?_); (case sidet => exact Kd.C_below HTAB.out (bw_ HB.out)); rintro e w6 ⟨rfl, hb⟩; refine ⟨_, rfl, ?_⟩; replace BK1156 := kq_ BK1156 hb; replace HB := bq_ HB hb; (try clear hb); (try clear hb2); (try clear hk); (try clear hi); obtain ⟨hcz7_0, hcz7_1, hcz7_2, hfz7_0, hfz7_1, hfz7_2⟩ := c3_ BK1156) | ((with_reducible refine gate_callee (f := 19) rfl ?_); refine gl_ (some 9) Tryd.func19 #[.agg #[.bool a0_0, .slice A0_1 l0_1.length c0_1, .int .i64 a0_2]] ?_; (with_reducible refine (peloruslaw03_Few.calls a0_0 _ _ l0_1 a0_2 t1158 _ ?side1 ?side2 A3.out).mono ?_); (case side1 => exact kc_ (Kd.C_below HR0_1.out HB.out)); (case side2 => exact HC0_1.out); rintro e w8 ⟨rfl, hb⟩; refine ⟨_, rfl, ?_⟩; replace BK1156 := kq_ BK1156 hb; replace HB := bq_ HB hb; (try clear hb); (try clear hb2); (try clear hk); (try clear hi)))
 (try simp only [Act.put, List.setIfInBounds_toArray, List.set_cons_zero, List.set_cons_succ])
 go_cut [15] (fun v15 wc => ∃ (kq : Nat) (x15_3 : Bool), v15 = .bool x15_3 ∧ Aside0 (peloruslaw03_DyParts.j0 kq t1157 x15_3 a0_0 l0_1 a0_2 = some r) ∧ Aside0 (kq ≤ k) ∧ Aside0 (wc.heap[gb1156]? = some (.cells #[.bool a0_0, (.slice A0_1 l0_1.length c0_1), .int .i64 a0_2] 27 (0, 0))) ∧ Aside0 (Below w.heap.size w wc))
 case first =>
  have H := HC4.out
  clear HC4
  by_cases c9 : t1157 = true
  ·subst c9
   have H1 : (peloruslaw03_DyParts.j0 k true (!t1158) a0_0 l0_1 a0_2) = some r := by rw [if_pos rfl] at H; exact H
   clear H
   have H := H1
   clear H1
   have H' := Aside0.mk H
   clear H
   go_wp2
   go_meet
   case rel => exact ⟨_, (!t1158), (by first | rfl | (simp; done) | (simp [*]; done)), H', ⟨by first | omega | exact Nat.le_refl _⟩, ⟨kb_ BK1156.out⟩, ⟨bw_ HB.out⟩⟩
  ·replace c9 := Bool.eq_false_iff.mpr c9
   subst c9
   have H1 : (peloruslaw03_DyParts.j0 k false true a0_0 l0_1 a0_2) = some r := by rw [if_neg (show ¬ (false = true) by decide)] at H; exact H
   clear H
   have H := H1
   clear H1
   have H' := Aside0.mk H
   clear H
   go_wp2
   go_meet
   case rel => exact ⟨_, (true), (by first | rfl | (simp; done) | (simp [*]; done)), H', ⟨by first | omega | exact Nat.le_refl _⟩, ⟨kb_ BK1156.out⟩, ⟨bw_ HB.out⟩⟩
 case rest =>
  clear HC4
  try clear c1
  try clear p2
  try clear c8
  try clear c9
  try clear hcz7_0 hcz7_1 hcz7_2
  try clear hfz7_0 hfz7_1 hfz7_2
  obtain ⟨kq, x15_3, rfl, HA, HJ3, BK1156, HB⟩ := hcut
  cases kq with
  | zero => exact absurd HA.out (by simp [peloruslaw03_DyParts.j0])
  | succ kj3 =>
   have H := HA.out
   clear HA
   simp only [peloruslaw03_DyParts.j0] at H
   by_cases c10 : x15_3 = true
   ·subst c10
    have H1 : (some t1157) = some r := by rw [if_pos rfl] at H; exact H
    clear H
    have H := H1
    clear H1
    obtain rfl := Option.some.inj H
    go_wp2
    go_ret
    exact ⟨rf_, bw_ HB.out⟩
   ·replace c10 := Bool.eq_false_iff.mpr c10
    subst c10
    have H1 : ((dy_Floor.f kj3 a0_0 l0_1 a0_2).bind fun bt1159 => ((dy_Make.f kj3 bt1159.1 bt1159.2 0).bind fun bt1163 => ((dy_Sub.f kj3 a0_0 l0_1 a0_2 bt1163.1 bt1163.2.1 bt1163.2.2).bind fun bt1169 => ((dy_Sign.f kj3 bt1169.1 bt1169.2.1 bt1169.2.2).bind fun t1175 => (if t1175 ≥ 0 then ((whole_From.f kj3 1).bind fun bt1176 => ((dy_Make.f kj3 bt1176.1 bt1176.2 0).bind fun bt1180 => ((dy_Cmp.f kj3 bt1169.1 bt1169.2.1 bt1169.2.2 bt1180.1 bt1180.2.1 bt1180.2.2).bind fun t1185 => (if t1185 < 0 then ((dy_Add.f kj3 (([(⟨(⟨bt1163.1, bt1163.2.1⟩ : S24), bt1163.2.2⟩ : S27), (⟨(⟨bt1169.1, bt1169.2.1⟩ : S24), bt1169.2.2⟩ : S27)] : List (S27)))).bind fun bt1189 => ((dy_Cmp.f kj3 bt1189.1 bt1189.2.1 bt1189.2.2 a0_0 l0_1 a0_2).bind fun t1194 => (if t1194 = 0 then ((dy_Neg.f kj3 bt1169.1 bt1169.2.1 bt1169.2.2).bind fun bt1195 => ((dy_Mul.f kj3 bt1169.1 bt1169.2.1 bt1169.2.2 bt1195.1 bt1195.2.1 bt1195.2.2).bind fun bt1200 => ((dy_Sign.f kj3 bt1200.1 bt1200.2.1 bt1200.2.2).bind fun t1205 => (some (decide (t1205 ≤ 0)))))) else (some false)))) else (some false))))) else (some false)))))) = some r := by rw [if_neg (show ¬ (false = true) by decide)] at H; exact H
    clear H
    have H := H1
    clear H1
    replace H := Option.bind_eq_some_iff.mp H
    obtain ⟨⟨t1159, t1160⟩, A110, H⟩ := H
    (try dsimp only at H)
    have A11 := Aside0.mk A110
    clear A110
    replace H := Option.bind_eq_some_iff.mp H
    obtain ⟨⟨t1163, t1164, t1167⟩, A120, H⟩ := H
    (try dsimp only at H)
    have A12 := Aside0.mk A120
    clear A120
    replace H := Option.bind_eq_some_iff.mp H
    obtain ⟨⟨t1169, t1170, t1173⟩, A130, H⟩ := H
    (try dsimp only at H)
    have A13 := Aside0.mk A130
    clear A130
    replace H := Option.bind_eq_some_iff.mp H
    obtain ⟨t1175, A140, H⟩ := H
    (try dsimp only at H)
    have A14 := Aside0.mk A140
    clear A140
    by_cases c15 : t1175 ≥ 0
    ·rw [if_pos c15] at H
     have c15b0 : decide (0 ≤ t1175) = true := decide_eq_true c15
     clear c15
     replace H := Option.bind_eq_some_iff.mp H
     obtain ⟨⟨t1176, t1177⟩, A160, H⟩ := H
     (try dsimp only at H)
     have A16 := Aside0.mk A160
     clear A160
     replace H := Option.bind_eq_some_iff.mp H
     obtain ⟨⟨t1180, t1181, t1184⟩, A170, H⟩ := H
     (try dsimp only at H)
     have A17 := Aside0.mk A170
     clear A170
     replace H := Option.bind_eq_some_iff.mp H
     obtain ⟨t1185, A180, H⟩ := H
     (try dsimp only at H)
     have A18 := Aside0.mk A180
     clear A180
     by_cases c19 : t1185 < 0
     ·rw [if_pos c19] at H
      have c19b0 : decide (t1185 < 0) = true := decide_eq_true c19
      clear c19
      obtain ⟨y1186, hy1186⟩ : ∃ y_ : List (S27), y_ = (([(⟨(⟨t1163, t1164⟩ : S24), t1167⟩ : S27), (⟨(⟨t1169, t1170⟩ : S24), t1173⟩ : S27)] : List (S27))) := ⟨_, rfl⟩
      replace H : ((dy_Add.f kj3 y1186).bind fun bt1189 => ((dy_Cmp.f kj3 bt1189.1 bt1189.2.1 bt1189.2.2 a0_0 l0_1 a0_2).bind fun t1194 => (if t1194 = 0 then ((dy_Neg.f kj3 t1169 t1170 t1173).bind fun bt1195 => ((dy_Mul.f kj3 t1169 t1170 t1173 bt1195.1 bt1195.2.1 bt1195.2.2).bind fun bt1200 => ((dy_Sign.f kj3 bt1200.1 bt1200.2.1 bt1200.2.2).bind fun t1205 => (some (decide (t1205 ≤ 0)))))) else (some false)))) = some r := by first | (rw [hy1186]; with_reducible exact H) | (have H2_ := (Option.bind_some _ _).symm.trans H; rw [hy1186]; with_reducible exact H2_) | (have H2_ := (Option.bind_some _ _).symm.trans H; with_reducible exact H2_) | with_reducible exact H | (rw [hy1186]; exact H) | exact H
      have Ny1186 := Aside0.mk hy1186
      clear hy1186
      replace H := Option.bind_eq_some_iff.mp H
      obtain ⟨⟨t1189, t1190, t1193⟩, A200, H⟩ := H
      (try dsimp only at H)
      have A20 := Aside0.mk A200
      clear A200
      replace H := Option.bind_eq_some_iff.mp H
      obtain ⟨t1194, A210, H⟩ := H
      (try dsimp only at H)
      have A21 := Aside0.mk A210
      clear A210
      by_cases c22 : t1194 = 0
      ·rw [if_pos c22] at H
       have c22b0 : (t1194 == 0) = true := beq_iff_eq.mpr c22
       have c22b1 : (t1194 != 0) = false := bne_eq_false_iff_eq.mpr c22
       clear c22
       replace H := Option.bind_eq_some_iff.mp H
       obtain ⟨⟨t1195, t1196, t1199⟩, A230, H⟩ := H
       (try dsimp only at H)
       have A23 := Aside0.mk A230
       clear A230
       replace H := Option.bind_eq_some_iff.mp H
       obtain ⟨⟨t1200, t1201, t1204⟩, A240, H⟩ := H
       (try dsimp only at H)
       have A24 := Aside0.mk A240
       clear A240
       replace H := Option.bind_eq_some_iff.mp H
       obtain ⟨t1205, A250, H⟩ := H
       (try dsimp only at H)
       have A25 := Aside0.mk A250
       clear A250
       obtain rfl := Option.some.inj H
       obtain ⟨hcz26_0, hcz26_1, hcz26_2, hfz26_0, hfz26_1, hfz26_2⟩ := c3_ BK1156
       try go_wp2_with (first | ((with_reducible refine gate_callee (f := 23) rfl ?_); refine gl_ (some 18) Tryd.func23 #[.agg #[.bool a0_0, .slice A0_1 l0_1.length c0_1, .int .i64 a0_2]] ?_; (with_reducible refine (dy_Floor.calls kj3 a0_0 _ _ l0_1 a0_2 t1159 t1160 _ ?side1 ?side2 A11.out ?sidet).mono ?_); (case sidet => exact Kd.C_below HTAB.out (bw_ HB.out)); (case side1 => exact kc_ (Kd.C_below HR0_1.out HB.out)); (case side2 => exact HC0_1.out); rintro e w27 ⟨v1161, rfl, ho0, hb⟩; refine ⟨_, rfl, ?_⟩; have HO1162 := Aside0.mk (Kd.R_lower ho0 (below_size (bw_ HB.out))); replace BK1156 := kq_ BK1156 hb; replace HB := bq_ HB hb; (try clear hb); (try clear hb2); (try clear hk); (try clear hi); (try clear ho0); obtain ⟨Ao28, co28, eo28⟩ := Kd.R_slice HO1162.out; subst eo28) | ((with_reducible refine gate_callee (f := 10) rfl ?_); refine gl_ (some 19) Tryd.func10 #[.agg #[.bool t1159, .slice Ao28 t1160.length co28], .int .i64 0] ?_; (with_reducible refine (dy_Make.calls kj3 t1159 _ _ t1160 0 t1163 t1164 t1167 _ ?side1 ?side2 A12.out ?sidet).mono ?_); (case sidet => exact Kd.C_below HTAB.out (bw_ HB.out)); (case side1 => exact kc_ (Kd.R_reads' HO1162.out).2.2); (case side2 => exact (Kd.R_reads' HO1162.out).2.1); rintro e w29 ⟨v1165, rfl, ho0, hb⟩; refine ⟨_, rfl, ?_⟩; have HO1166 := Aside0.mk (Kd.R_lower (Kd.R_new' ho0 (Kd.R_lt (kr_ HO1162.out))) (below_size (bw_ HB.out))); replace HO1162 := Aside0.mk (Kd.R_elder' (kr_ HO1162.out) (Kd.R_base ho0) hb); replace BK1156 := kq_ BK1156 hb; replace HB := bq_ HB hb; (try clear hb); (try clear hb2); (try clear hk); (try clear hi); (try clear ho0)) | ((with_reducible refine gate_dst (N := 5) rfl ?_); (try (refine gate_guard (by rfl) ?_; dsimp only)); refine bx_ 5 #[.bool false, .slice none 0 0, .int .i64 0] 27 ?_; intro gb1168 hg w30 hbox hb; have BK1168 := Aside0.mk (hbox); have GW1168 := ge_ hg HB; have GE1168 := ge_ hg HB; have NB1156_1168 := nb_ hg BK1156; have NB1168_1156 := nc_ hg BK1156; replace HO1162 := Aside0.mk (Kd.R_below (kr_ HO1162.out) hb); replace HO1166 := Aside0.mk (Kd.R_below (kr_ HO1166.out) hb); replace BK1156 := kq_ BK1156 hb; replace HB := bq_ HB hb; clear hb hbox hg; have hnb31 := NB1168_1156.out; have hnc31 := NB1156_1168.out; obtain ⟨hcz32_0, hcz32_1, hcz32_2, hfz32_0, hfz32_1, hfz32_2⟩ := c3_ BK1168; obtain ⟨Ao33, co33, eo33⟩ := Kd.R_slice HO1166.out; subst eo33) | ((with_reducible refine gate_store (t := 27) (p := 5) rfl ?_); refine store_event (t := 27) (p := 5) (v := ?vo_w34) (w1 := (((w30.setCell ⟨gb1168, 0, none⟩ (.bool t1163)).setCell ⟨gb1168, 1, none⟩ (.slice Ao33 t1164.length co33)).setCell ⟨gb1168, 2, none⟩ (.int .i64 t1167))) ?hg ?ho ?hn ?hr ?_; (case ho => rfl); (case hg => rfl); (case hn => rfl); (case hr => first | (go_simp; done) | (go_simp; rfl)); intro w34 hw; have n0_ : Aside0 (Kd.R (Kd.int .u32) 51 w34 w.heap.size (fun k_ => some k_ ≠ (.slice Ao33 t1164.length co33 : Value).ownBlock) (.slice Ao28 t1160.length co28) t1160) := ⟨(by rw [hw]; exact (kr_ (Kd.R_mono (Kd.R_far (p := ⟨gb1168, 2, none⟩) (Kd.R_far (p := ⟨gb1168, 1, none⟩) (Kd.R_far (p := ⟨gb1168, 0, none⟩) (Kd.R_types HO1162.out BK1168.out (by decide)) (fun _ hk => hk.2) (.bool t1163)) (fun _ hk => hk.2) (.slice Ao33 t1164.length co33)) (fun _ hk => hk.2) (.int .i64 t1167)) (fun _ hk => hk.1.2))))⟩; have n1_ : Aside0 (Kd.R (Kd.int .u32) 51 w34 w.heap.size (fun k_ => some k_ ≠ (.slice Ao28 t1160.length co28 : Value).ownBlock) (.slice Ao33 t1164.length co33) t1164) := ⟨(by rw [hw]; exact (kr_ (Kd.R_mono (Kd.R_far (p := ⟨gb1168, 2, none⟩) (Kd.R_far (p := ⟨gb1168, 1, none⟩) (Kd.R_far (p := ⟨gb1168, 0, none⟩) (Kd.R_types HO1166.out BK1168.out (by decide)) (fun _ hk => hk.2) (.bool t1163)) (fun _ hk => hk.2) (.slice Ao33 t1164.length co33)) (fun _ hk => hk.2) (.int .i64 t1167)) (fun _ hk => hk.1.2))))⟩; have n2_ : Aside0 (w34.heap[gb1156]? = some (.cells #[.bool a0_0, .slice A0_1 l0_1.length c0_1, .int .i64 a0_2] 27 (0, 0))) := ⟨(by rw [hw]; exact (by refine kb_ ?_; refine bf_ NB1156_1168 ?_; refine bf_ NB1156_1168 ?_; refine bf_ NB1156_1168 ?_; exact BK1156.out))⟩; have n3_ : Aside0 (w34.heap[gb1168]? = some (.cells #[.bool t1163, .slice Ao33 t1164.length co33, .int .i64 t1167] 27 (0, 0))) := ⟨(by rw [hw]; exact (by refine kb_ ?_; refine bp_ #[.bool t1163, .slice Ao33 t1164.length co33, .int .i64 0] 2 ?_; refine bp_ #[.bool t1163, .slice none 0 0, .int .i64 0] 1 ?_; refine bp_ #[.bool false, .slice none 0 0, .int .i64 0] 0 ?_; exact BK1168.out))⟩; have n4_ : Aside0 (Below w.heap.size w w34) := ⟨(by rw [hw]; exact (bw_ HB.out))⟩; clear hw; clear HO1162; clear HO1166; clear BK1156; clear BK1168; clear HB; have HO1162 := n0_; have HO1166 := n1_; have BK1156 := n2_; have BK1168 := n3_; have HB := n4_; clear n0_ n1_ n2_ n3_ n4_; obtain ⟨hcz35_0, hcz35_1, hcz35_2, hfz35_0, hfz35_1, hfz35_2⟩ := c3_ BK1156; obtain ⟨hcz36_0, hcz36_1, hcz36_2, hfz36_0, hfz36_1, hfz36_2⟩ := c3_ BK1168) | ((with_reducible refine gate_callee (f := 28) rfl ?_); refine gl_ (some 22) Tryd.func28 #[.agg #[.bool a0_0, .slice A0_1 l0_1.length c0_1, .int .i64 a0_2], .agg #[.bool t1163, .slice Ao33 t1164.length co33, .int .i64 t1167]] ?_; (with_reducible refine (dy_Sub.calls kj3 a0_0 (fun k_ => k_ < w.heap.size) _ _ l0_1 a0_2 t1163 _ _ t1164 t1167 t1169 t1170 t1173 _ ?side1 ?side2 ?side3 A13.out ?sidet).mono ?_); (case sidet => exact Kd.C_below HTAB.out (bw_ HB.out)); (case side1 => exact Kd.V_mk HC0_1.out (Kd.F_below (Kd.C_F (Kd.heap_int .u32) HR0_1.out) (bw_ HB.out))); (case side2 => exact kc_ (Kd.R_reads' HO1166.out).2.2); (case side3 => exact (Kd.R_reads' HO1166.out).2.1); rintro e w37 ⟨v1171, rfl, ho0, hb⟩; refine ⟨_, rfl, ?_⟩; have HO1172 := Aside0.mk (Kd.R_lower (Kd.R_new' (Kd.R_new' (Kd.R_mono (ok' := fun k_ => True) ho0 (fun _ hk_ => trivial)) (Kd.R_lt (kr_ HO1162.out))) (Kd.R_lt (kr_ HO1166.out))) (below_size (bw_ HB.out))); replace HO1162 := Aside0.mk (Kd.R_elder' (kr_ HO1162.out) (Kd.R_base ho0) hb); replace HO1166 := Aside0.mk (Kd.R_elder' (kr_ HO1166.out) (Kd.R_base ho0) hb); replace BK1156 := kq_ BK1156 hb; replace BK1168 := kq_ BK1168 hb; replace HB := bq_ HB hb; (try clear hb); (try clear hb2); (try clear hk); (try clear hi); (try clear ho0)) | ((with_reducible refine gate_dst (N := 6) rfl ?_); (try (refine gate_guard (by rfl) ?_; dsimp only)); refine bx_ 6 #[.bool false, .slice none 0 0, .int .i64 0] 27 ?_; intro gb1174 hg w38 hbox hb; have BK1174 := Aside0.mk (hbox); have GW1174 := ge_ hg HB; have GE1174 := ge_ hg HB; have NB1156_1174 := nb_ hg BK1156; have NB1174_1156 := nc_ hg BK1156; have NB1168_1174 := nb_ hg BK1168; have NB1174_1168 := nc_ hg BK1168; replace HO1162 := Aside0.mk (Kd.R_below (kr_ HO1162.out) hb); replace HO1166 := Aside0.mk (Kd.R_below (kr_ HO1166.out) hb); replace HO1172 := Aside0.mk (Kd.R_below (kr_ HO1172.out) hb); replace BK1156 := kq_ BK1156 hb; replace BK1168 := kq_ BK1168 hb; replace HB := bq_ HB hb; clear hb hbox hg; have hnb39 := NB1174_1156.out; have hnc39 := NB1156_1174.out; have hnb40 := NB1174_1168.out; have hnc40 := NB1168_1174.out; obtain ⟨hcz41_0, hcz41_1, hcz41_2, hfz41_0, hfz41_1, hfz41_2⟩ := c3_ BK1174; obtain ⟨Ao42, co42, eo42⟩ := Kd.R_slice HO1172.out; subst eo42))
       have n0_ : Aside0 (Kd.R (Kd.int .u32) 51 (((w38.setCell ⟨gb1174, 0, none⟩ (.bool t1169)).setCell ⟨gb1174, 1, none⟩ (.slice Ao42 t1170.length co42)).setCell ⟨gb1174, 2, none⟩ (.int .i64 t1173)) w.heap.size (fun k_ => some k_ ≠ (.slice Ao33 t1164.length co33 : Value).ownBlock ∧ some k_ ≠ (.slice Ao42 t1170.length co42 : Value).ownBlock) (.slice Ao28 t1160.length co28) t1160) := ⟨by (with_reducible repeat (first | apply Kd.R_alloc | apply Kd.R_drewN | apply Kd.R_drew)); exact Kd.R_mono (Kd.R_far (p := ⟨gb1174, 2, none⟩) (Kd.R_far (p := ⟨gb1174, 1, none⟩) (Kd.R_far (p := ⟨gb1174, 0, none⟩) (Kd.R_types HO1162.out BK1174.out (by decide)) (fun _ hk => hk.2) (.bool t1169)) (fun _ hk => hk.2) (.slice Ao42 t1170.length co42)) (fun _ hk => hk.2) (.int .i64 t1173)) (fun _ hk => by first | exact ⟨hk.1.1, hk.1.2⟩ | (simp only [ob_map] at hk ⊢; exact ⟨hk.1.1, hk.1.2⟩))⟩
       have n1_ : Aside0 (Kd.R (Kd.int .u32) 51 (((w38.setCell ⟨gb1174, 0, none⟩ (.bool t1169)).setCell ⟨gb1174, 1, none⟩ (.slice Ao42 t1170.length co42)).setCell ⟨gb1174, 2, none⟩ (.int .i64 t1173)) w.heap.size (fun k_ => some k_ ≠ (.slice Ao28 t1160.length co28 : Value).ownBlock ∧ some k_ ≠ (.slice Ao42 t1170.length co42 : Value).ownBlock) (.slice Ao33 t1164.length co33) t1164) := ⟨by (with_reducible repeat (first | apply Kd.R_alloc | apply Kd.R_drewN | apply Kd.R_drew)); exact Kd.R_mono (Kd.R_far (p := ⟨gb1174, 2, none⟩) (Kd.R_far (p := ⟨gb1174, 1, none⟩) (Kd.R_far (p := ⟨gb1174, 0, none⟩) (Kd.R_types HO1166.out BK1174.out (by decide)) (fun _ hk => hk.2) (.bool t1169)) (fun _ hk => hk.2) (.slice Ao42 t1170.length co42)) (fun _ hk => hk.2) (.int .i64 t1173)) (fun _ hk => by first | exact ⟨hk.1.1, hk.1.2⟩ | (simp only [ob_map] at hk ⊢; exact ⟨hk.1.1, hk.1.2⟩))⟩
       have n2_ : Aside0 (Kd.R (Kd.int .u32) 51 (((w38.setCell ⟨gb1174, 0, none⟩ (.bool t1169)).setCell ⟨gb1174, 1, none⟩ (.slice Ao42 t1170.length co42)).setCell ⟨gb1174, 2, none⟩ (.int .i64 t1173)) w.heap.size (fun k_ => some k_ ≠ (.slice Ao28 t1160.length co28 : Value).ownBlock ∧ some k_ ≠ (.slice Ao33 t1164.length co33 : Value).ownBlock) (.slice Ao42 t1170.length co42) t1170) := ⟨by (with_reducible repeat (first | apply Kd.R_alloc | apply Kd.R_drewN | apply Kd.R_drew)); exact Kd.R_mono (Kd.R_far (p := ⟨gb1174, 2, none⟩) (Kd.R_far (p := ⟨gb1174, 1, none⟩) (Kd.R_far (p := ⟨gb1174, 0, none⟩) (Kd.R_types HO1172.out BK1174.out (by decide)) (fun _ hk => hk.2) (.bool t1169)) (fun _ hk => hk.2) (.slice Ao42 t1170.length co42)) (fun _ hk => hk.2) (.int .i64 t1173)) (fun _ hk => by first | exact ⟨hk.1.1.2, hk.1.2⟩ | (simp only [ob_map] at hk ⊢; exact ⟨hk.1.1.2, hk.1.2⟩))⟩
       have n3_ : Aside0 ((((w38.setCell ⟨gb1174, 0, none⟩ (.bool t1169)).setCell ⟨gb1174, 1, none⟩ (.slice Ao42 t1170.length co42)).setCell ⟨gb1174, 2, none⟩ (.int .i64 t1173)).heap[gb1156]? = some (.cells #[.bool a0_0, .slice A0_1 l0_1.length c0_1, .int .i64 a0_2] 27 (0, 0))) := ⟨by refine kb_ ?_; refine bf_ NB1156_1174 ?_; refine bf_ NB1156_1174 ?_; refine bf_ NB1156_1174 ?_; exact BK1156.out⟩
       have n4_ : Aside0 ((((w38.setCell ⟨gb1174, 0, none⟩ (.bool t1169)).setCell ⟨gb1174, 1, none⟩ (.slice Ao42 t1170.length co42)).setCell ⟨gb1174, 2, none⟩ (.int .i64 t1173)).heap[gb1168]? = some (.cells #[.bool t1163, .slice Ao33 t1164.length co33, .int .i64 t1167] 27 (0, 0))) := ⟨by refine kb_ ?_; refine bf_ NB1168_1174 ?_; refine bf_ NB1168_1174 ?_; refine bf_ NB1168_1174 ?_; exact BK1168.out⟩
       have n5_ : Aside0 ((((w38.setCell ⟨gb1174, 0, none⟩ (.bool t1169)).setCell ⟨gb1174, 1, none⟩ (.slice Ao42 t1170.length co42)).setCell ⟨gb1174, 2, none⟩ (.int .i64 t1173)).heap[gb1174]? = some (.cells #[.bool t1169, .slice Ao42 t1170.length co42, .int .i64 t1173] 27 (0, 0))) := ⟨by refine kb_ ?_; refine bp_ #[.bool t1169, .slice Ao42 t1170.length co42, .int .i64 0] 2 ?_; refine bp_ #[.bool t1169, .slice none 0 0, .int .i64 0] 1 ?_; refine bp_ #[.bool false, .slice none 0 0, .int .i64 0] 0 ?_; exact BK1174.out⟩
       have n6_ : Aside0 (Below w.heap.size w (((w38.setCell ⟨gb1174, 0, none⟩ (.bool t1169)).setCell ⟨gb1174, 1, none⟩ (.slice Ao42 t1170.length co42)).setCell ⟨gb1174, 2, none⟩ (.int .i64 t1173))) := ⟨bw_ HB.out⟩
       (try clear HO1162)
       (try clear HO1166)
       (try clear HO1172)
       (try clear BK1156)
       (try clear BK1168)
       (try clear BK1174)
       (try clear HB)
       generalize (((w38.setCell ⟨gb1174, 0, none⟩ (.bool t1169)).setCell ⟨gb1174, 1, none⟩ (.slice Ao42 t1170.length co42)).setCell ⟨gb1174, 2, none⟩ (.int .i64 t1173)) = w43 at n0_ n1_ n2_ n3_ n4_ n5_ n6_ ⊢
       have HO1162 := n0_
       have HO1166 := n1_
       have HO1172 := n2_
       have BK1156 := n3_
       have BK1168 := n4_
       have BK1174 := n5_
       have HB := n6_
       clear n0_ n1_ n2_ n3_ n4_ n5_ n6_
       replace HO1162 := Aside0.mk (Kd.R_drew HO1162.out)
       replace HO1166 := Aside0.mk (Kd.R_drew HO1166.out)
       replace HO1172 := Aside0.mk (Kd.R_drew HO1172.out)
       replace BK1156 := Aside0.mk (blk_drew BK1156.out)
       replace BK1168 := Aside0.mk (blk_drew BK1168.out)
       replace BK1174 := Aside0.mk (blk_drew BK1174.out)
       replace HB := Aside0.mk (below_drew1 HB.out)
       refine start_ (n := 28) (S := fun w' => w'.cell? ⟨gb1174, 0, none⟩ = some (.bool t1169) ∧ w'.cell? ⟨gb1174, 1, none⟩ = some (.slice Ao42 t1170.length co42) ∧ w'.cell? ⟨gb1174, 2, none⟩ = some (.int .i64 t1173) ∧ w'.cell? ⟨gb1168, 0, none⟩ = some (.bool t1163) ∧ w'.cell? ⟨gb1168, 1, none⟩ = some (.slice Ao33 t1164.length co33) ∧ w'.cell? ⟨gb1168, 2, none⟩ = some (.int .i64 t1167) ∧ w'.cell? ⟨gb1156, 0, none⟩ = some (.bool a0_0) ∧ w'.cell? ⟨gb1156, 1, none⟩ = some (.slice A0_1 l0_1.length c0_1) ∧ w'.cell? ⟨gb1156, 2, none⟩ = some (.int .i64 a0_2)) (ds := []) #[false, false, false, false, false, false, false, false, false, false, false, false, false, false, false, false, false, false, false, false, false, false, false, false, false, false, false, false] (by kernel_rfl) rfl rfl ⟨(blk_cell BK1174.out 0).trans rfl, (blk_cell BK1174.out 1).trans rfl, (blk_cell BK1174.out 2).trans rfl, (blk_cell BK1168.out 0).trans rfl, (blk_cell BK1168.out 1).trans rfl, (blk_cell BK1168.out 2).trans rfl, (blk_cell BK1156.out 0).trans rfl, (blk_cell BK1156.out 1).trans rfl, (blk_cell BK1156.out 2).trans rfl⟩ (fun hHeld => ?_); refine with_tabW peloruslaw03_DyParts.tab7 peloruslaw03_DyParts.bits7 (fun HT_ HW_ => ?_)
       generalize w43.drew = w44 at HO1162 HO1166 HO1172 BK1156 BK1168 BK1174 HB hHeld ⊢
       refine take_ (i := 0) (N := some 23) (v := ?_) (a' := ?_) #[true, false, false, false, false, false, false, false, false, false, false, false, false, false, false, false, false, false, false, false, false, false, false, false, false, false, false, false] rfl rfl (take_ofW HT_.out HW_.out (by kernel_rfl)) (fun _ _ _ h => h) (Or.inl ⟨by rfl, ?_⟩) hHeld ?_ ?_
       rotate_left
       ·rintro w' ⟨s0, s1, s2, s3, s4, s5, s6, s7, s8⟩
        go_simp
        with_reducible rfl
       rotate_left
       ·exact pt_
       refine one_ (i := 1) (N := some 24) #[true, true, false, false, false, false, false, false, false, false, false, false, false, false, false, false, false, false, false, false, false, false, false, false, false, false, false, false] rfl rfl (one_of HT_.out (by kernel_rfl)) (by decide) (fun K hK => ?_)
       refine gs_ Tryd.func17 #[.agg #[.bool t1169, .slice Ao42 t1170.length co42, .int .i64 t1173]] ?_
       with_reducible refine (dy_Sign.calls kj3 t1169 _ _ t1170 t1173 t1175 _ ?side1 ?side2 A14.out ?sidet).mono ?_
       (case sidet => exact Kd.C_below HTAB.out (bw_ HB.out))
       (case side1 => exact kc_ (Kd.R_reads' HO1172.out).2.2)
       (case side2 => exact (Kd.R_reads' HO1172.out).2.1)
       rintro e w45 ⟨rfl, hb⟩
       refine ⟨_, rfl, ?_⟩
       replace HO1162 := Aside0.mk (Kd.R_below (kr_ HO1162.out) hb)
       replace HO1166 := Aside0.mk (Kd.R_below (kr_ HO1166.out) hb)
       replace HO1172 := Aside0.mk (Kd.R_below (kr_ HO1172.out) hb)
       replace BK1156 := kq_ BK1156 hb
       replace BK1168 := kq_ BK1168 hb
       replace BK1174 := kq_ BK1174 hb
       replace HB := bq_ HB hb
       (try clear hb)
       (try clear hb2)
       (try clear hk)
       (try clear hi)
       refine hK.out _ _ ⟨(blk_cell BK1174.out 0).trans rfl, (blk_cell BK1174.out 1).trans rfl, (blk_cell BK1174.out 2).trans rfl, (blk_cell BK1168.out 0).trans rfl, (blk_cell BK1168.out 1).trans rfl, (blk_cell BK1168.out 2).trans rfl, (blk_cell BK1156.out 0).trans rfl, (blk_cell BK1156.out 1).trans rfl, (blk_cell BK1156.out 2).trans rfl⟩ (fun hHeld => ?_)
       clear hK K
       refine norm_ (a' := ?_) ?_ ?_
       rotate_left
       ·show Act.put _ (some 24) _ = _
        exact pt_
       refine pure_ (i := 2) (N := some 25) (v := ?_) (a' := ?_) #[true, true, true, false, false, false, false, false, false, false, false, false, false, false, false, false, false, false, false, false, false, false, false, false, false, false, false, false] rfl rfl (any_of HT_.out (by kernel_rfl)) (fun _ _ _ h => h) (Or.inl ⟨by rfl, ?_⟩) ?_ ?_
       rotate_left
       ·intro w'
        go_simp
        with_reducible rfl
       rotate_left
       ·exact pt_
       refine pure_ (i := 3) (N := some 26) (v := ?_) (a' := ?_) #[true, true, true, true, false, false, false, false, false, false, false, false, false, false, false, false, false, false, false, false, false, false, false, false, false, false, false, false] rfl rfl (any_of HT_.out (by kernel_rfl)) (fun _ _ _ h => h) (Or.inl ⟨by rfl, ?_⟩) ?_ ?_
       rotate_left
       ·intro w'
        go_simp
        with_reducible rfl
       rotate_left
       ·exact pt_
       refine take_ (i := 4) (N := some 27) (v := ?_) (a' := ?_) #[true, true, true, true, true, false, false, false, false, false, false, false, false, false, false, false, false, false, false, false, false, false, false, false, false, false, false, false] rfl rfl (take_ofW HT_.out HW_.out (by kernel_rfl)) (fun _ _ _ h => h) (Or.inl ⟨by rfl, ?_⟩) hHeld ?_ ?_
       rotate_left
       ·rintro w' ⟨s0, s1, s2, s3, s4, s5, s6, s7, s8⟩
        go_simp
        with_reducible rfl
       rotate_left
       ·exact pt_
       refine one_ (i := 5) (N := some 28) #[true, true, true, true, true, true, false, false, false, false, false, false, false, false, false, false, false, false, false, false, false, false, false, false, false, false, false, false] rfl rfl (one_of HT_.out (by kernel_rfl)) (by decide) (fun K hK => ?_)
       refine gs_ Tryd.func25 #[.int .i64 1] ?_
       with_reducible refine (whole_From.calls kj3 1 t1176 t1177 _ A16.out).mono ?_
       rintro e w46 ⟨v1178, rfl, ho0, hb⟩
       refine ⟨_, rfl, ?_⟩
       have HO1179 := Aside0.mk (Kd.R_lower (Kd.R_new' (Kd.R_new' (Kd.R_new' ho0 (Kd.R_lt (kr_ HO1162.out))) (Kd.R_lt (kr_ HO1166.out))) (Kd.R_lt (kr_ HO1172.out))) (below_size (bw_ HB.out)))
       replace HO1162 := Aside0.mk (Kd.R_elder' (kr_ HO1162.out) (Kd.R_base ho0) hb)
       replace HO1166 := Aside0.mk (Kd.R_elder' (kr_ HO1166.out) (Kd.R_base ho0) hb)
       replace HO1172 := Aside0.mk (Kd.R_elder' (kr_ HO1172.out) (Kd.R_base ho0) hb)
       replace BK1156 := kq_ BK1156 hb
       replace BK1168 := kq_ BK1168 hb
       replace BK1174 := kq_ BK1174 hb
       replace HB := bq_ HB hb
       (try clear hb)
       (try clear hb2)
       (try clear hk)
       (try clear hi)
       (try clear ho0)
       obtain ⟨Ao47, co47, eo47⟩ := Kd.R_slice HO1179.out
       (first | subst eo47 | (injection eo47 with f1_ f2_ f3_; have f4_ := f1_.symm; have f5_ := f3_.symm; clear f1_ f2_ f3_; subst f4_; subst f5_))
       refine hK.out _ _ ⟨(blk_cell BK1174.out 0).trans rfl, (blk_cell BK1174.out 1).trans rfl, (blk_cell BK1174.out 2).trans rfl, (blk_cell BK1168.out 0).trans rfl, (blk_cell BK1168.out 1).trans rfl, (blk_cell BK1168.out 2).trans rfl, (blk_cell BK1156.out 0).trans rfl, (blk_cell BK1156.out 1).trans rfl, (blk_cell BK1156.out 2).trans rfl⟩ (fun hHeld => ?_)
       clear hK K
       refine norm_ (a' := ?_) ?_ ?_
       rotate_left
       ·show Act.put _ (some 28) _ = _
        exact pt_
       refine one_ (i := 6) (N := some 29) #[true, true, true, true, true, true, true, false, false, false, false, false, false, false, false, false, false, false, false, false, false, false, false, false, false, false, false, false] rfl rfl (one_of HT_.out (by kernel_rfl)) (by decide) (fun K hK => ?_)
       refine gs_ Tryd.func10 #[.agg #[.bool t1176, .slice Ao47 t1177.length co47], .int .i64 0] ?_
       with_reducible refine (dy_Make.calls kj3 t1176 _ _ t1177 0 t1180 t1181 t1184 _ ?side1 ?side2 A17.out ?sidet).mono ?_
       (case sidet => exact Kd.C_below HTAB.out (bw_ HB.out))
       (case side1 => exact kc_ (Kd.R_reads' HO1179.out).2.2)
       (case side2 => exact (Kd.R_reads' HO1179.out).2.1)
       rintro e w48 ⟨v1182, rfl, ho0, hb⟩
       refine ⟨_, rfl, ?_⟩
       have HO1183 := Aside0.mk (Kd.R_lower (Kd.R_new' (Kd.R_new' (Kd.R_new' (Kd.R_new' ho0 (Kd.R_lt (kr_ HO1162.out))) (Kd.R_lt (kr_ HO1166.out))) (Kd.R_lt (kr_ HO1172.out))) (Kd.R_lt (kr_ HO1179.out))) (below_size (bw_ HB.out)))
       replace HO1162 := Aside0.mk (Kd.R_elder' (kr_ HO1162.out) (Kd.R_base ho0) hb)
       replace HO1166 := Aside0.mk (Kd.R_elder' (kr_ HO1166.out) (Kd.R_base ho0) hb)
       replace HO1172 := Aside0.mk (Kd.R_elder' (kr_ HO1172.out) (Kd.R_base ho0) hb)
       replace HO1179 := Aside0.mk (Kd.R_elder' (kr_ HO1179.out) (Kd.R_base ho0) hb)
       replace BK1156 := kq_ BK1156 hb
       replace BK1168 := kq_ BK1168 hb
       replace BK1174 := kq_ BK1174 hb
       replace HB := bq_ HB hb
       (try clear hb)
       (try clear hb2)
       (try clear hk)
       (try clear hi)
       (try clear ho0)
       obtain ⟨Ao49, co49, eo49⟩ := Kd.R_slice HO1183.out
       (first | subst eo49 | (injection eo49 with f1_ f2_ f3_; have f4_ := f1_.symm; have f5_ := f3_.symm; clear f1_ f2_ f3_; subst f4_; subst f5_))
       refine hK.out _ _ ⟨(blk_cell BK1174.out 0).trans rfl, (blk_cell BK1174.out 1).trans rfl, (blk_cell BK1174.out 2).trans rfl, (blk_cell BK1168.out 0).trans rfl, (blk_cell BK1168.out 1).trans rfl, (blk_cell BK1168.out 2).trans rfl, (blk_cell BK1156.out 0).trans rfl, (blk_cell BK1156.out 1).trans rfl, (blk_cell BK1156.out 2).trans rfl⟩ (fun hHeld => ?_)
       clear hK K
       refine norm_ (a' := ?_) ?_ ?_
       rotate_left
       ·show Act.put _ (some 29) _ = _
        exact pt_
       refine one_ (i := 7) (N := some 30) #[true, true, true, true, true, true, true, true, false, false, false, false, false, false, false, false, false, false, false, false, false, false, false, false, false, false, false, false] rfl rfl (one_of HT_.out (by kernel_rfl)) (by decide) (fun K hK => ?_)
       refine gs_ Tryd.func20 #[.agg #[.bool t1169, .slice Ao42 t1170.length co42, .int .i64 t1173], .agg #[.bool t1180, .slice Ao49 t1181.length co49, .int .i64 t1184]] ?_
       with_reducible refine (dy_Cmp.calls kj3 t1169 _ _ t1170 t1173 t1180 _ _ t1181 t1184 t1185 _ ?side1 ?side2 ?side3 ?side4 A18.out ?sidet).mono ?_
       (case sidet => exact Kd.C_below HTAB.out (bw_ HB.out))
       (case side1 => exact kc_ (Kd.R_reads' HO1172.out).2.2)
       (case side2 => exact (Kd.R_reads' HO1172.out).2.1)
       (case side3 => exact kc_ (Kd.R_reads' HO1183.out).2.2)
       (case side4 => exact (Kd.R_reads' HO1183.out).2.1)
       rintro e w50 ⟨rfl, hb⟩
       refine ⟨_, rfl, ?_⟩
       replace HO1162 := Aside0.mk (Kd.R_below (kr_ HO1162.out) hb)
       replace HO1166 := Aside0.mk (Kd.R_below (kr_ HO1166.out) hb)
       replace HO1172 := Aside0.mk (Kd.R_below (kr_ HO1172.out) hb)
       replace HO1179 := Aside0.mk (Kd.R_below (kr_ HO1179.out) hb)
       replace HO1183 := Aside0.mk (Kd.R_below (kr_ HO1183.out) hb)
       replace BK1156 := kq_ BK1156 hb
       replace BK1168 := kq_ BK1168 hb
       replace BK1174 := kq_ BK1174 hb
       replace HB := bq_ HB hb
       (try clear hb)
       (try clear hb2)
       (try clear hk)
       (try clear hi)
       refine hK.out _ _ ⟨(blk_cell BK1174.out 0).trans rfl, (blk_cell BK1174.out 1).trans rfl, (blk_cell BK1174.out 2).trans rfl, (blk_cell BK1168.out 0).trans rfl, (blk_cell BK1168.out 1).trans rfl, (blk_cell BK1168.out 2).trans rfl, (blk_cell BK1156.out 0).trans rfl, (blk_cell BK1156.out 1).trans rfl, (blk_cell BK1156.out 2).trans rfl⟩ (fun hHeld => ?_)
       clear hK K
       refine norm_ (a' := ?_) ?_ ?_
       rotate_left
       ·show Act.put _ (some 30) _ = _
        exact pt_
       refine pure_ (i := 8) (N := some 31) (v := ?_) (a' := ?_) #[true, true, true, true, true, true, true, true, true, false, false, false, false, false, false, false, false, false, false, false, false, false, false, false, false, false, false, false] rfl rfl (any_of HT_.out (by kernel_rfl)) (fun _ _ _ h => h) (Or.inl ⟨by rfl, ?_⟩) ?_ ?_
       rotate_left
       ·intro w'
        go_simp
        with_reducible rfl
       rotate_left
       ·exact pt_
       refine pure_ (i := 9) (N := some 32) (v := ?_) (a' := ?_) #[true, true, true, true, true, true, true, true, true, true, false, false, false, false, false, false, false, false, false, false, false, false, false, false, false, false, false, false] rfl rfl (any_of HT_.out (by kernel_rfl)) (fun _ _ _ h => h) (Or.inl ⟨by rfl, ?_⟩) ?_ ?_
       rotate_left
       ·intro w'
        go_simp
        with_reducible rfl
       rotate_left
       ·exact pt_
       refine pure_ (i := 10) (N := some 33) (v := ?_) (a' := ?_) #[true, true, true, true, true, true, true, true, true, true, true, false, false, false, false, false, false, false, false, false, false, false, false, false, false, false, false, false] rfl rfl (any_of HT_.out (by kernel_rfl)) (fun _ _ _ h => h) (Or.inl ⟨by rfl, ?_⟩) ?_ ?_
       rotate_left
       ·intro w'
        go_simp
        with_reducible rfl
       rotate_left
       ·exact pt_
       refine take_ (i := 11) (N := some 34) (v := ?_) (a' := ?_) #[true, true, true, true, true, true, true, true, true, true, true, true, false, false, false, false, false, false, false, false, false, false, false, false, false, false, false, false] rfl rfl (take_ofW HT_.out HW_.out (by kernel_rfl)) (fun _ _ _ h => h) (Or.inl ⟨by rfl, ?_⟩) hHeld ?_ ?_
       rotate_left
       ·rintro w' ⟨s0, s1, s2, s3, s4, s5, s6, s7, s8⟩
        go_simp
        with_reducible rfl
       rotate_left
       ·exact pt_
       refine take_ (i := 12) (N := some 35) (v := ?_) (a' := ?_) #[true, true, true, true, true, true, true, true, true, true, true, true, true, false, false, false, false, false, false, false, false, false, false, false, false, false, false, false] rfl rfl (take_ofW HT_.out HW_.out (by kernel_rfl)) (fun _ _ _ h => h) (Or.inl ⟨by rfl, ?_⟩) hHeld ?_ ?_
       rotate_left
       ·rintro w' ⟨s0, s1, s2, s3, s4, s5, s6, s7, s8⟩
        go_simp
        with_reducible rfl
       rotate_left
       ·exact pt_
       refine take_ (i := 15) (N := some 38) (v := ?_) (a' := ?_) #[true, true, true, true, true, true, true, true, true, true, true, true, true, false, false, true, false, false, false, false, false, false, false, false, false, false, false, false] rfl rfl (take_ofW HT_.out HW_.out (by kernel_rfl)) (fun _ _ _ h => h) (Or.inl ⟨by rfl, ?_⟩) hHeld ?_ ?_
       rotate_left
       ·rintro w' ⟨s0, s1, s2, s3, s4, s5, s6, s7, s8⟩
        go_simp
        with_reducible rfl
       rotate_left
       ·exact pt_
       refine one_ (i := 13) (N := some 36) #[true, true, true, true, true, true, true, true, true, true, true, true, true, true, false, true, false, false, false, false, false, false, false, false, false, false, false, false] rfl rfl (one_of HT_.out (by kernel_rfl)) (by decide) (fun K hK => ?_)
       refine Kd.N_lit_step k27 _ 27 ?hg (N' := 36) ?hd (xs := ([(⟨(⟨t1163, t1164⟩ : S24), t1167⟩ : S27), (⟨(⟨t1169, t1170⟩ : S24), t1173⟩ : S27)] : List (S27))) (inner := [.bool t1163, .slice Ao33 t1164.length co33, .int .i64 t1167, .bool t1169, .slice Ao42 t1170.length co42, .int .i64 t1173]) (ok := (fun k_ => some k_ ≠ (.slice Ao28 t1160.length co28 : Value).ownBlock ∧ some k_ ≠ (.slice Ao47 t1177.length co47 : Value).ownBlock ∧ some k_ ≠ (.slice Ao49 t1181.length co49 : Value).ownBlock ∧ k_ ≠ gb1156 ∧ k_ ≠ gb1168 ∧ k_ ≠ gb1174)) (okp := (fun k_ => some k_ ≠ (.slice Ao28 t1160.length co28 : Value).ownBlock ∧ some k_ ≠ (.slice Ao47 t1177.length co47 : Value).ownBlock ∧ some k_ ≠ (.slice Ao49 t1181.length co49 : Value).ownBlock ∧ k_ ≠ gb1156 ∧ k_ ≠ gb1168 ∧ k_ ≠ gb1174)) ?hr ?hp (fun _ hk => hk) ((show ∀ k_, w50.heap.size ≤ k_ → (fun k_ => some k_ ≠ (.slice Ao28 t1160.length co28 : Value).ownBlock ∧ some k_ ≠ (.slice Ao47 t1177.length co47 : Value).ownBlock ∧ some k_ ≠ (.slice Ao49 t1181.length co49 : Value).ownBlock ∧ k_ ≠ gb1156 ∧ k_ ≠ gb1168 ∧ k_ ≠ gb1174) k_ from fun k_ hk => ⟨Kd.fresh' (Kd.R_lt (kr_ HO1162.out)) k_ hk, Kd.fresh' (Kd.R_lt (kr_ HO1179.out)) k_ hk, Kd.fresh' (Kd.R_lt (kr_ HO1183.out)) k_ hk, Kd.freshB (g := gb1156) (o := .cells #[.bool a0_0, .slice A0_1 l0_1.length c0_1, .int .i64 a0_2] 27 (0, 0)) (kb_ BK1156.out) k_ hk, Kd.freshB (g := gb1168) (o := .cells #[.bool t1163, .slice Ao33 t1164.length co33, .int .i64 t1167] 27 (0, 0)) (kb_ BK1168.out) k_ hk, Kd.freshB (g := gb1174) (o := .cells #[.bool t1169, .slice Ao42 t1170.length co42, .int .i64 t1173] 27 (0, 0)) (kb_ BK1174.out) k_ hk⟩) _ (Nat.le_refl _)) (Below.refl _ _) (Nat.le_refl _) (by simp) ?_; (case hd => rfl); (case hg => rfl); (case hr => first | (go_simp; done) | (go_simp; rfl)); (case hp => exact (Reps.c3 (show Kd.FK k27 _ _ (⟨(⟨t1163, t1164⟩ : S24), t1167⟩ : S27) [.bool t1163, .slice Ao33 t1164.length co33, .int .i64 t1167] from (k27_mkF _ _ (⟨(⟨t1163, t1164⟩ : S24), t1167⟩ : S27) (Kd.R_reads' (Kd.R_mono (ok' := (fun k_ => some k_ ≠ (.slice Ao28 t1160.length co28 : Value).ownBlock ∧ some k_ ≠ (.slice Ao47 t1177.length co47 : Value).ownBlock ∧ some k_ ≠ (.slice Ao49 t1181.length co49 : Value).ownBlock ∧ k_ ≠ gb1156 ∧ k_ ≠ gb1168 ∧ k_ ≠ gb1174)) (Kd.R_types (Kd.R_types (Kd.R_types (HO1166.out) BK1156.out (by decide)) BK1168.out (by decide)) BK1174.out (by decide)) (fun k_ hk => ⟨hk.1.1.1.1.1.1, ⟨hk.1.1.1.1.2, ⟨hk.1.1.1.2, ⟨hk.1.1.2, ⟨hk.1.2, hk.2⟩⟩⟩⟩⟩))).2.1 (Kd.R_F (Kd.R_mono (ok' := (fun k_ => some k_ ≠ (.slice Ao28 t1160.length co28 : Value).ownBlock ∧ some k_ ≠ (.slice Ao47 t1177.length co47 : Value).ownBlock ∧ some k_ ≠ (.slice Ao49 t1181.length co49 : Value).ownBlock ∧ k_ ≠ gb1156 ∧ k_ ≠ gb1168 ∧ k_ ≠ gb1174)) (Kd.R_types (Kd.R_types (Kd.R_types (HO1166.out) BK1156.out (by decide)) BK1168.out (by decide)) BK1174.out (by decide)) (fun k_ hk => ⟨hk.1.1.1.1.1.1, ⟨hk.1.1.1.1.2, ⟨hk.1.1.1.2, ⟨hk.1.1.2, ⟨hk.1.2, hk.2⟩⟩⟩⟩⟩))))) (Reps.c3 (show Kd.FK k27 _ _ (⟨(⟨t1169, t1170⟩ : S24), t1173⟩ : S27) [.bool t1169, .slice Ao42 t1170.length co42, .int .i64 t1173] from (k27_mkF _ _ (⟨(⟨t1169, t1170⟩ : S24), t1173⟩ : S27) (Kd.R_reads' (Kd.R_mono (ok' := (fun k_ => some k_ ≠ (.slice Ao28 t1160.length co28 : Value).ownBlock ∧ some k_ ≠ (.slice Ao47 t1177.length co47 : Value).ownBlock ∧ some k_ ≠ (.slice Ao49 t1181.length co49 : Value).ownBlock ∧ k_ ≠ gb1156 ∧ k_ ≠ gb1168 ∧ k_ ≠ gb1174)) (Kd.R_types (Kd.R_types (Kd.R_types (HO1172.out) BK1156.out (by decide)) BK1168.out (by decide)) BK1174.out (by decide)) (fun k_ hk => ⟨hk.1.1.1.1.1.1, ⟨hk.1.1.1.1.2, ⟨hk.1.1.1.2, ⟨hk.1.1.2, ⟨hk.1.2, hk.2⟩⟩⟩⟩⟩))).2.1 (Kd.R_F (Kd.R_mono (ok' := (fun k_ => some k_ ≠ (.slice Ao28 t1160.length co28 : Value).ownBlock ∧ some k_ ≠ (.slice Ao47 t1177.length co47 : Value).ownBlock ∧ some k_ ≠ (.slice Ao49 t1181.length co49 : Value).ownBlock ∧ k_ ≠ gb1156 ∧ k_ ≠ gb1168 ∧ k_ ≠ gb1174)) (Kd.R_types (Kd.R_types (Kd.R_types (HO1172.out) BK1156.out (by decide)) BK1168.out (by decide)) BK1174.out (by decide)) (fun k_ hk => ⟨hk.1.1.1.1.1.1, ⟨hk.1.1.1.1.2, ⟨hk.1.1.1.2, ⟨hk.1.1.2, ⟨hk.1.2, hk.2⟩⟩⟩⟩⟩))))) (Reps.none _ _))))
       intro v1187 w51 ho52 hb hg_ hnew_
       clear hg_ hnew_
       (first | rw [← Ny1186.out] at ho52 | (simp only [Int.reduceToNat] at ho52; rw [← Ny1186.out] at ho52))
       have HO1188 := Aside0.mk (Kd.N_lower ho52 (below_size (bw_ HB.out)))
       replace HO1162 := Aside0.mk (Kd.R_below (kr_ HO1162.out) hb)
       replace HO1179 := Aside0.mk (Kd.R_below (kr_ HO1179.out) hb)
       replace HO1183 := Aside0.mk (Kd.R_below (kr_ HO1183.out) hb)
       replace BK1156 := kq_ BK1156 hb
       replace BK1168 := kq_ BK1168 hb
       replace BK1174 := kq_ BK1174 hb
       have HC1172 := Aside0.mk (And.intro (Kd.R_reads' HO1172.out).2.1 (Kd.C_below (kc_ (Kd.R_reads' HO1172.out).2.2) hb))
       replace HB := bq_ HB hb
       clear HO1166 HO1172
       clear hb ho52
       obtain ⟨Ao53, co53, eo53⟩ := Kd.N_slice HO1188.out
       (first | subst eo53 | (injection eo53 with f1_ f2_ f3_; have f4_ := f1_.symm; have f5_ := f3_.symm; clear f1_ f2_ f3_; subst f4_; subst f5_))
       refine hK.out _ _ ⟨(blk_cell BK1174.out 0).trans rfl, (blk_cell BK1174.out 1).trans rfl, (blk_cell BK1174.out 2).trans rfl, (blk_cell BK1168.out 0).trans rfl, (blk_cell BK1168.out 1).trans rfl, (blk_cell BK1168.out 2).trans rfl, (blk_cell BK1156.out 0).trans rfl, (blk_cell BK1156.out 1).trans rfl, (blk_cell BK1156.out 2).trans rfl⟩ (fun hHeld => ?_)
       clear hK K
       refine norm_ (a' := ?_) ?_ ?_
       rotate_left
       ·show Act.put _ (some 36) _ = _
        exact pt_
       refine one_ (i := 14) (N := some 37) #[true, true, true, true, true, true, true, true, true, true, true, true, true, true, true, true, false, false, false, false, false, false, false, false, false, false, false, false] rfl rfl (one_of HT_.out (by kernel_rfl)) (by decide) (fun K hK => ?_)
       refine gs_ Tryd.func21 #[.slice Ao53 y1186.length co53] ?_
       with_reducible refine (dy_Add.calls kj3 _ _ y1186 t1189 t1190 t1193 _ ?side1 ?side2 A20.out ?sidet).mono ?_
       (case sidet => exact Kd.C_below HTAB.out (bw_ HB.out))
       (case side1 => exact kc_ (Kd.N_reads' HO1188.out).2.2)
       (case side2 => exact (Kd.N_reads' HO1188.out).2.1)
       rintro e w54 ⟨v1191, rfl, ho0, hb⟩
       refine ⟨_, rfl, ?_⟩
       have n0_ := Aside0.mk (Kd.R_elder' (kr_ HO1162.out) (Kd.R_base ho0) hb)
       have n1_ := Aside0.mk (Kd.R_elder' (kr_ HO1179.out) (Kd.R_base ho0) hb)
       have n2_ := Aside0.mk (Kd.R_elder' (kr_ HO1183.out) (Kd.R_base ho0) hb)
       have n3_ := Aside0.mk (Kd.N_elder' (by (with_reducible repeat (first | apply Kd.N_alloc | apply Kd.N_drewN | apply Kd.N_drew)); exact HO1188.out) (Kd.R_base ho0) hb)
       have n4_ := Aside0.mk (Kd.R_lower (Kd.R_new' (Kd.R_new' (Kd.R_new' ho0 (Kd.R_lt (kr_ HO1162.out))) (Kd.R_lt (kr_ HO1179.out))) (Kd.R_lt (kr_ HO1183.out))) (below_size (bw_ HB.out)))
       have n5_ := kq_ BK1156 hb
       have n6_ := kq_ BK1168 hb
       have n7_ := kq_ BK1174 hb
       replace HC1172 := Aside0.mk (And.intro HC1172.out.1 (Kd.C_below (kc_ HC1172.out.2) hb))
       have n8_ := bq_ HB hb
       clear HO1162
       clear HO1179
       clear HO1183
       clear HO1188
       clear BK1156
       clear BK1168
       clear BK1174
       clear HB
       have HO1162 := n0_
       have HO1179 := n1_
       have HO1183 := n2_
       have HO1188 := n3_
       have HO1192 := n4_
       have BK1156 := n5_
       have BK1168 := n6_
       have BK1174 := n7_
       have HB := n8_
       clear n0_ n1_ n2_ n3_ n4_ n5_ n6_ n7_ n8_
       (try clear hb)
       (try clear hb2)
       (try clear hk)
       (try clear hi)
       (try clear ho0)
       obtain ⟨Ao55, co55, eo55⟩ := Kd.R_slice HO1192.out
       (first | subst eo55 | (injection eo55 with f1_ f2_ f3_; have f4_ := f1_.symm; have f5_ := f3_.symm; clear f1_ f2_ f3_; subst f4_; subst f5_))
       refine hK.out _ _ ⟨(blk_cell BK1174.out 0).trans rfl, (blk_cell BK1174.out 1).trans rfl, (blk_cell BK1174.out 2).trans rfl, (blk_cell BK1168.out 0).trans rfl, (blk_cell BK1168.out 1).trans rfl, (blk_cell BK1168.out 2).trans rfl, (blk_cell BK1156.out 0).trans rfl, (blk_cell BK1156.out 1).trans rfl, (blk_cell BK1156.out 2).trans rfl⟩ (fun hHeld => ?_)
       clear hK K
       refine norm_ (a' := ?_) ?_ ?_
       rotate_left
       ·show Act.put _ (some 37) _ = _
        exact pt_
       refine one_ (i := 16) (N := some 39) #[true, true, true, true, true, true, true, true, true, true, true, true, true, true, true, true, true, false, false, false, false, false, false, false, false, false, false, false] rfl rfl (one_of HT_.out (by kernel_rfl)) (by decide) (fun K hK => ?_)
       refine gs_ Tryd.func20 #[.agg #[.bool t1189, .slice Ao55 t1190.length co55, .int .i64 t1193], .agg #[.bool a0_0, .slice A0_1 l0_1.length c0_1, .int .i64 a0_2]] ?_
       with_reducible refine (dy_Cmp.calls kj3 t1189 _ _ t1190 t1193 a0_0 _ _ l0_1 a0_2 t1194 _ ?side1 ?side2 ?side3 ?side4 A21.out ?sidet).mono ?_
       (case sidet => exact Kd.C_below HTAB.out (bw_ HB.out))
       (case side1 => exact kc_ (Kd.R_reads' HO1192.out).2.2)
       (case side2 => exact (Kd.R_reads' HO1192.out).2.1)
       (case side3 => exact kc_ (Kd.C_below HR0_1.out HB.out))
       (case side4 => exact HC0_1.out)
       rintro e w56 ⟨rfl, hb⟩
       refine ⟨_, rfl, ?_⟩
       have n0_ := Aside0.mk (Kd.R_below (kr_ HO1162.out) hb)
       have n1_ := Aside0.mk (Kd.R_below (kr_ HO1179.out) hb)
       have n2_ := Aside0.mk (Kd.R_below (kr_ HO1183.out) hb)
       have n3_ := Aside0.mk (Kd.N_below (by (with_reducible repeat (first | apply Kd.N_alloc | apply Kd.N_drewN | apply Kd.N_drew)); exact HO1188.out) hb)
       have n4_ := Aside0.mk (Kd.R_below (kr_ HO1192.out) hb)
       have n5_ := kq_ BK1156 hb
       have n6_ := kq_ BK1168 hb
       have n7_ := kq_ BK1174 hb
       replace HC1172 := Aside0.mk (And.intro HC1172.out.1 (Kd.C_below (kc_ HC1172.out.2) hb))
       have n8_ := bq_ HB hb
       clear HO1162
       clear HO1179
       clear HO1183
       clear HO1188
       clear HO1192
       clear BK1156
       clear BK1168
       clear BK1174
       clear HB
       have HO1162 := n0_
       have HO1179 := n1_
       have HO1183 := n2_
       have HO1188 := n3_
       have HO1192 := n4_
       have BK1156 := n5_
       have BK1168 := n6_
       have BK1174 := n7_
       have HB := n8_
       clear n0_ n1_ n2_ n3_ n4_ n5_ n6_ n7_ n8_
       (try clear hb)
       (try clear hb2)
       (try clear hk)
       (try clear hi)
       refine hK.out _ _ ⟨(blk_cell BK1174.out 0).trans rfl, (blk_cell BK1174.out 1).trans rfl, (blk_cell BK1174.out 2).trans rfl, (blk_cell BK1168.out 0).trans rfl, (blk_cell BK1168.out 1).trans rfl, (blk_cell BK1168.out 2).trans rfl, (blk_cell BK1156.out 0).trans rfl, (blk_cell BK1156.out 1).trans rfl, (blk_cell BK1156.out 2).trans rfl⟩ (fun hHeld => ?_)
       clear hK K
       refine norm_ (a' := ?_) ?_ ?_
       rotate_left
       ·show Act.put _ (some 39) _ = _
        exact pt_
       refine pure_ (i := 17) (N := some 40) (v := ?_) (a' := ?_) #[true, true, true, true, true, true, true, true, true, true, true, true, true, true, true, true, true, true, false, false, false, false, false, false, false, false, false, false] rfl rfl (any_of HT_.out (by kernel_rfl)) (fun _ _ _ h => h) (Or.inl ⟨by rfl, ?_⟩) ?_ ?_
       rotate_left
       ·intro w'
        go_simp
        with_reducible rfl
       rotate_left
       ·exact pt_
       refine pure_ (i := 18) (N := some 41) (v := ?_) (a' := ?_) #[true, true, true, true, true, true, true, true, true, true, true, true, true, true, true, true, true, true, true, false, false, false, false, false, false, false, false, false] rfl rfl (any_of HT_.out (by kernel_rfl)) (fun _ _ _ h => h) (Or.inl ⟨by rfl, ?_⟩) ?_ ?_
       rotate_left
       ·intro w'
        go_simp
        with_reducible rfl
       rotate_left
       ·exact pt_
       refine pure_ (i := 19) (N := some 42) (v := ?_) (a' := ?_) #[true, true, true, true, true, true, true, true, true, true, true, true, true, true, true, true, true, true, true, true, false, false, false, false, false, false, false, false] rfl rfl (any_of HT_.out (by kernel_rfl)) (fun _ _ _ h => h) (Or.inl ⟨by rfl, ?_⟩) ?_ ?_
       rotate_left
       ·intro w'
        go_simp
        with_reducible rfl
       rotate_left
       ·exact pt_
       refine take_ (i := 20) (N := some 43) (v := ?_) (a' := ?_) #[true, true, true, true, true, true, true, true, true, true, true, true, true, true, true, true, true, true, true, true, true, false, false, false, false, false, false, false] rfl rfl (take_ofW HT_.out HW_.out (by kernel_rfl)) (fun _ _ _ h => h) (Or.inl ⟨by rfl, ?_⟩) hHeld ?_ ?_
       rotate_left
       ·rintro w' ⟨s0, s1, s2, s3, s4, s5, s6, s7, s8⟩
        go_simp
        with_reducible rfl
       rotate_left
       ·exact pt_
       refine take_ (i := 21) (N := some 44) (v := ?_) (a' := ?_) #[true, true, true, true, true, true, true, true, true, true, true, true, true, true, true, true, true, true, true, true, true, true, false, false, false, false, false, false] rfl rfl (take_ofW HT_.out HW_.out (by kernel_rfl)) (fun _ _ _ h => h) (Or.inl ⟨by rfl, ?_⟩) hHeld ?_ ?_
       rotate_left
       ·rintro w' ⟨s0, s1, s2, s3, s4, s5, s6, s7, s8⟩
        go_simp
        with_reducible rfl
       rotate_left
       ·exact pt_
       refine one_ (i := 22) (N := some 45) #[true, true, true, true, true, true, true, true, true, true, true, true, true, true, true, true, true, true, true, true, true, true, true, false, false, false, false, false] rfl rfl (one_of HT_.out (by kernel_rfl)) (by decide) (fun K hK => ?_)
       refine gs_ Tryd.func32 #[.agg #[.bool t1169, .slice Ao42 t1170.length co42, .int .i64 t1173]] ?_
       with_reducible refine (dy_Neg.calls kj3 t1169 _ _ t1170 t1173 t1195 t1196 t1199 _ ?side1 ?side2 A23.out ?sidet).mono ?_
       (case sidet => exact Kd.C_below HTAB.out (bw_ HB.out))
       (case side1 => exact kc_ HC1172.out.2)
       (case side2 => exact HC1172.out.1)
       rintro e w57 ⟨v1197, rfl, ho0, hb⟩
       refine ⟨_, rfl, ?_⟩
       have n0_ := Aside0.mk (Kd.R_elder' (kr_ HO1162.out) (Kd.R_base ho0) hb)
       have n1_ := Aside0.mk (Kd.R_elder' (kr_ HO1179.out) (Kd.R_base ho0) hb)
       have n2_ := Aside0.mk (Kd.R_elder' (kr_ HO1183.out) (Kd.R_base ho0) hb)
       have n3_ := Aside0.mk (Kd.N_elder' (by (with_reducible repeat (first | apply Kd.N_alloc | apply Kd.N_drewN | apply Kd.N_drew)); exact HO1188.out) (Kd.R_base ho0) hb)
       have n4_ := Aside0.mk (Kd.R_elder' (kr_ HO1192.out) (Kd.R_base ho0) hb)
       have n5_ := Aside0.mk (Kd.R_lower (Kd.R_new' (Kd.R_new' (Kd.R_new' (Kd.R_new' ho0 (Kd.R_lt (kr_ HO1162.out))) (Kd.R_lt (kr_ HO1179.out))) (Kd.R_lt (kr_ HO1183.out))) (Kd.R_lt (kr_ HO1192.out))) (below_size (bw_ HB.out)))
       have n6_ := kq_ BK1156 hb
       have n7_ := kq_ BK1168 hb
       have n8_ := kq_ BK1174 hb
       replace HC1172 := Aside0.mk (And.intro HC1172.out.1 (Kd.C_below (kc_ HC1172.out.2) hb))
       have n9_ := bq_ HB hb
       clear HO1162
       clear HO1179
       clear HO1183
       clear HO1188
       clear HO1192
       clear BK1156
       clear BK1168
       clear BK1174
       clear HB
       have HO1162 := n0_
       have HO1179 := n1_
       have HO1183 := n2_
       have HO1188 := n3_
       have HO1192 := n4_
       have HO1198 := n5_
       have BK1156 := n6_
       have BK1168 := n7_
       have BK1174 := n8_
       have HB := n9_
       clear n0_ n1_ n2_ n3_ n4_ n5_ n6_ n7_ n8_ n9_
       (try clear hb)
       (try clear hb2)
       (try clear hk)
       (try clear hi)
       (try clear ho0)
       obtain ⟨Ao58, co58, eo58⟩ := Kd.R_slice HO1198.out
       (first | subst eo58 | (injection eo58 with f1_ f2_ f3_; have f4_ := f1_.symm; have f5_ := f3_.symm; clear f1_ f2_ f3_; subst f4_; subst f5_))
       refine hK.out _ _ ⟨(blk_cell BK1174.out 0).trans rfl, (blk_cell BK1174.out 1).trans rfl, (blk_cell BK1174.out 2).trans rfl, (blk_cell BK1168.out 0).trans rfl, (blk_cell BK1168.out 1).trans rfl, (blk_cell BK1168.out 2).trans rfl, (blk_cell BK1156.out 0).trans rfl, (blk_cell BK1156.out 1).trans rfl, (blk_cell BK1156.out 2).trans rfl⟩ (fun hHeld => ?_)
       clear hK K
       refine norm_ (a' := ?_) ?_ ?_
       rotate_left
       ·show Act.put _ (some 45) _ = _
        exact pt_
       refine one_ (i := 23) (N := some 46) #[true, true, true, true, true, true, true, true, true, true, true, true, true, true, true, true, true, true, true, true, true, true, true, true, false, false, false, false] rfl rfl (one_of HT_.out (by kernel_rfl)) (by decide) (fun K hK => ?_)
       refine gs_ Tryd.func30 #[.agg #[.bool t1169, .slice Ao42 t1170.length co42, .int .i64 t1173], .agg #[.bool t1195, .slice Ao58 t1196.length co58, .int .i64 t1199]] ?_
       with_reducible refine (dy_Mul.calls kj3 t1169 _ _ t1170 t1173 t1195 _ _ t1196 t1199 t1200 t1201 t1204 _ ?side1 ?side2 ?side3 ?side4 A24.out ?sidet).mono ?_
       (case sidet => exact Kd.C_below HTAB.out (bw_ HB.out))
       (case side1 => exact kc_ HC1172.out.2)
       (case side2 => exact HC1172.out.1)
       (case side3 => exact kc_ (Kd.R_reads' HO1198.out).2.2)
       (case side4 => exact (Kd.R_reads' HO1198.out).2.1)
       rintro e w59 ⟨v1202, rfl, ho0, hb⟩
       refine ⟨_, rfl, ?_⟩
       have n0_ := Aside0.mk (Kd.R_elder' (kr_ HO1162.out) (Kd.R_base ho0) hb)
       have n1_ := Aside0.mk (Kd.R_elder' (kr_ HO1179.out) (Kd.R_base ho0) hb)
       have n2_ := Aside0.mk (Kd.R_elder' (kr_ HO1183.out) (Kd.R_base ho0) hb)
       have n3_ := Aside0.mk (Kd.N_elder' (by (with_reducible repeat (first | apply Kd.N_alloc | apply Kd.N_drewN | apply Kd.N_drew)); exact HO1188.out) (Kd.R_base ho0) hb)
       have n4_ := Aside0.mk (Kd.R_elder' (kr_ HO1192.out) (Kd.R_base ho0) hb)
       have n5_ := Aside0.mk (Kd.R_elder' (kr_ HO1198.out) (Kd.R_base ho0) hb)
       have n6_ := Aside0.mk (Kd.R_lower (Kd.R_new' (Kd.R_new' (Kd.R_new' (Kd.R_new' (Kd.R_new' ho0 (Kd.R_lt (kr_ HO1162.out))) (Kd.R_lt (kr_ HO1179.out))) (Kd.R_lt (kr_ HO1183.out))) (Kd.R_lt (kr_ HO1192.out))) (Kd.R_lt (kr_ HO1198.out))) (below_size (bw_ HB.out)))
       have n7_ := kq_ BK1156 hb
       have n8_ := kq_ BK1168 hb
       have n9_ := kq_ BK1174 hb
       replace HC1172 := Aside0.mk (And.intro HC1172.out.1 (Kd.C_below (kc_ HC1172.out.2) hb))
       have n10_ := bq_ HB hb
       clear HO1162
       clear HO1179
       clear HO1183
       clear HO1188
       clear HO1192
       clear HO1198
       clear BK1156
       clear BK1168
       clear BK1174
       clear HB
       have HO1162 := n0_
       have HO1179 := n1_
       have HO1183 := n2_
       have HO1188 := n3_
       have HO1192 := n4_
       have HO1198 := n5_
       have HO1203 := n6_
       have BK1156 := n7_
       have BK1168 := n8_
       have BK1174 := n9_
       have HB := n10_
       clear n0_ n1_ n2_ n3_ n4_ n5_ n6_ n7_ n8_ n9_ n10_
       (try clear hb)
       (try clear hb2)
       (try clear hk)
       (try clear hi)
       (try clear ho0)
       obtain ⟨Ao60, co60, eo60⟩ := Kd.R_slice HO1203.out
       (first | subst eo60 | (injection eo60 with f1_ f2_ f3_; have f4_ := f1_.symm; have f5_ := f3_.symm; clear f1_ f2_ f3_; subst f4_; subst f5_))
       refine hK.out _ _ ⟨(blk_cell BK1174.out 0).trans rfl, (blk_cell BK1174.out 1).trans rfl, (blk_cell BK1174.out 2).trans rfl, (blk_cell BK1168.out 0).trans rfl, (blk_cell BK1168.out 1).trans rfl, (blk_cell BK1168.out 2).trans rfl, (blk_cell BK1156.out 0).trans rfl, (blk_cell BK1156.out 1).trans rfl, (blk_cell BK1156.out 2).trans rfl⟩ (fun hHeld => ?_)
       clear hK K
       refine norm_ (a' := ?_) ?_ ?_
       rotate_left
       ·show Act.put _ (some 46) _ = _
        exact pt_
       refine one_ (i := 24) (N := some 47) #[true, true, true, true, true, true, true, true, true, true, true, true, true, true, true, true, true, true, true, true, true, true, true, true, true, false, false, false] rfl rfl (one_of HT_.out (by kernel_rfl)) (by decide) (fun K hK => ?_)
       refine gs_ Tryd.func17 #[.agg #[.bool t1200, .slice Ao60 t1201.length co60, .int .i64 t1204]] ?_
       with_reducible refine (dy_Sign.calls kj3 t1200 _ _ t1201 t1204 t1205 _ ?side1 ?side2 A25.out ?sidet).mono ?_
       (case sidet => exact Kd.C_below HTAB.out (bw_ HB.out))
       (case side1 => exact kc_ (Kd.R_reads' HO1203.out).2.2)
       (case side2 => exact (Kd.R_reads' HO1203.out).2.1)
       rintro e w61 ⟨rfl, hb⟩
       refine ⟨_, rfl, ?_⟩
       have n0_ := Aside0.mk (Kd.R_below (kr_ HO1162.out) hb)
       have n1_ := Aside0.mk (Kd.R_below (kr_ HO1179.out) hb)
       have n2_ := Aside0.mk (Kd.R_below (kr_ HO1183.out) hb)
       have n3_ := Aside0.mk (Kd.N_below (by (with_reducible repeat (first | apply Kd.N_alloc | apply Kd.N_drewN | apply Kd.N_drew)); exact HO1188.out) hb)
       have n4_ := Aside0.mk (Kd.R_below (kr_ HO1192.out) hb)
       have n5_ := Aside0.mk (Kd.R_below (kr_ HO1198.out) hb)
       have n6_ := Aside0.mk (Kd.R_below (kr_ HO1203.out) hb)
       have n7_ := kq_ BK1156 hb
       have n8_ := kq_ BK1168 hb
       have n9_ := kq_ BK1174 hb
       replace HC1172 := Aside0.mk (And.intro HC1172.out.1 (Kd.C_below (kc_ HC1172.out.2) hb))
       have n10_ := bq_ HB hb
       clear HO1162
       clear HO1179
       clear HO1183
       clear HO1188
       clear HO1192
       clear HO1198
       clear HO1203
       clear BK1156
       clear BK1168
       clear BK1174
       clear HB
       have HO1162 := n0_
       have HO1179 := n1_
       have HO1183 := n2_
       have HO1188 := n3_
       have HO1192 := n4_
       have HO1198 := n5_
       have HO1203 := n6_
       have BK1156 := n7_
       have BK1168 := n8_
       have BK1174 := n9_
       have HB := n10_
       clear n0_ n1_ n2_ n3_ n4_ n5_ n6_ n7_ n8_ n9_ n10_
       (try clear hb)
       (try clear hb2)
       (try clear hk)
       (try clear hi)
       refine hK.out _ _ ⟨(blk_cell BK1174.out 0).trans rfl, (blk_cell BK1174.out 1).trans rfl, (blk_cell BK1174.out 2).trans rfl, (blk_cell BK1168.out 0).trans rfl, (blk_cell BK1168.out 1).trans rfl, (blk_cell BK1168.out 2).trans rfl, (blk_cell BK1156.out 0).trans rfl, (blk_cell BK1156.out 1).trans rfl, (blk_cell BK1156.out 2).trans rfl⟩ (fun hHeld => ?_)
       clear hK K
       refine norm_ (a' := ?_) ?_ ?_
       rotate_left
       ·show Act.put _ (some 47) _ = _
        exact pt_
       refine pure_ (i := 25) (N := some 48) (v := ?_) (a' := ?_) #[true, true, true, true, true, true, true, true, true, true, true, true, true, true, true, true, true, true, true, true, true, true, true, true, true, true, false, false] rfl rfl (any_of HT_.out (by kernel_rfl)) (fun _ _ _ h => h) (Or.inl ⟨by rfl, ?_⟩) ?_ ?_
       rotate_left
       ·intro w'
        go_simp
        with_reducible rfl
       rotate_left
       ·exact pt_
       refine pure_ (i := 26) (N := some 49) (v := ?_) (a' := ?_) #[true, true, true, true, true, true, true, true, true, true, true, true, true, true, true, true, true, true, true, true, true, true, true, true, true, true, true, false] rfl rfl (any_of HT_.out (by kernel_rfl)) (fun _ _ _ h => h) (Or.inl ⟨by rfl, ?_⟩) ?_ ?_
       rotate_left
       ·intro w'
        go_simp
        with_reducible rfl
       rotate_left
       ·exact pt_
       refine pure_ (i := 27) (N := some 2) (v := ?_) (a' := ?_) #[true, true, true, true, true, true, true, true, true, true, true, true, true, true, true, true, true, true, true, true, true, true, true, true, true, true, true, true] rfl rfl (any_of HT_.out (by kernel_rfl)) (fun _ _ _ h => h) (Or.inl ⟨by rfl, ?_⟩) ?_ ?_
       rotate_left
       ·intro w'
        go_simp
        with_reducible rfl
       rotate_left
       ·exact pt_
       refine done_ (done_of HT_.out (by kernel_rfl)) ?_
       try go_wp2
       go_ret
       exact ⟨rf_, bw_ HB.out⟩
      ·rw [if_neg c22] at H
       have c22b0 : (t1194 == 0) = false := beq_eq_false_iff_ne.mpr c22
       have c22b1 : (t1194 != 0) = true := bne_iff_ne.mpr c22
       exact absurd ((Option.some.inj H).trans HRT_.out) (by simp)
     ·rw [if_neg c19] at H
      have c19b0 : decide (t1185 < 0) = false := decide_eq_false c19
      clear c19
      exact absurd ((Option.some.inj H).trans HRT_.out) (by simp)
    ·rw [if_neg c15] at H
     have c15b0 : decide (0 ≤ t1175) = false := decide_eq_false c15
     clear c15
     exact absurd ((Option.some.inj H).trans HRT_.out) (by simp)


end Go.Proofs.YtaookeneeemfbaaDoor.PA
