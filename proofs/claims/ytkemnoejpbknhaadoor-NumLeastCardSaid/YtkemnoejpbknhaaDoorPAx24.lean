-- Laid by this work's own program; Lean checks it.
import Derived.Test.YtkemnoejpbknhaaDoorPAx0
import Derived.Test.YtkemnoejpbknhaaDoorPAx2
import Derived.Test.YtkemnoejpbknhaaDoorPAx13
import Derived.Test.YtkemnoejpbknhaaDoorPAx17
import Derived.Test.YtkemnoejpbknhaaDoorPAx19
namespace Go.Proofs.YtkemnoejpbknhaaDoor.PA
open Go.RowKit Go.Proofs.YtkemnoejpbknhaaDoorW.PrintWords Go.Proofs.YtkemnoejpbknhaaDoorW.PrintLast Go.Proofs.YtkemnoejpbknhaaDoorW.PrintMore
attribute [local go_sem] max2_int min2_int max_two min_two max_three min_three max_four min_four   -- for this text's walks alone
set_option linter.unusedVariables false
set_option linter.unusedSimpArgs false

attribute [local go_sem ↓ high] isSome_set_
/-! ### pelorusref05_Least: function 20 -/
set_option maxHeartbeats 8000000 in
set_option maxRecDepth 100000 in
theorem pelorusref05_Least.calls (k : Nat) (A0 : Option Addr) (c0 : Nat) (l0 : List (S30)) (r1 : Int) (r2 : Bool) (r3 : Int) (r4 : Int) (w : World) (hr0 : Kd.C k30 w A0 l0.length l0) (hc0 : l0.length ≤ c0) (h : pelorusref05_Least.f k l0 = some (r1, r2, r3, r4)) :
  Calls Tryd.prog 20 #[.slice A0 l0.length c0] w fun e w' => e = .returned (.agg #[.int .i64 r1, .bool r2, .int .u64 r3, .int .i64 r4]) ∧ Below w.heap.size w w' := by
 have hu30 := Tryd.underlying30
 have HR0 := Aside0.mk hr0
 have HC0 := Aside0.mk hc0
 clear hr0 hc0
 have HB := Aside0.mk (Below.refl w.heap.size w)
 have H : ((pelorusref05_Infinite.f false).bind fun bt582 => (pelorusref05_Least.l0 k l0 0 bt582.1 bt582.2.1 bt582.2.2.1 bt582.2.2.2)) = some (r1, r2, r3, r4) := h
 clear h
 replace H := Option.bind_eq_some_iff.mp H
 obtain ⟨⟨t582, t583, t584, t585⟩, A20, H⟩ := H
 (try dsimp only at H)
 have A2 := Aside0.mk A20
 clear A20
 have H' := Aside0.mk H
 clear H
 go_enter Tryd.func20, Tryd.ntmps20
 go_wp2_with (first | ((with_reducible refine gate_dst (N := 2) rfl ?_); refine bx_ 2 #[.int .i64 0, .bool false, .int .u64 0, .int .i64 0] 30 ?_; intro gb581 hg w3 hbox hb; have BK581 := Aside0.mk (hbox); have GW581 := ge_ hg HB; have GE581 := ge_ hg HB; replace HB := bq_ HB hb; clear hb hbox hg) | ((with_reducible refine gate_callee (f := 34) rfl ?_); refine gl_ (some 5) Tryd.func34 #[.bool false] ?_; (with_reducible refine (pelorusref05_Infinite.calls false t582 t583 t584 t585 _ A2.out).mono ?_); rintro e w4 ⟨rfl, hb⟩; refine ⟨_, rfl, ?_⟩; replace BK581 := kq_ BK581 hb; replace HB := bq_ HB hb; (try clear hb); (try clear hb2); (try clear hk); (try clear hi)) | ((with_reducible refine gate_dst (N := 3) rfl ?_); refine bx_ 3 #[.int .i64 0, .bool false, .int .u64 0, .int .i64 0] 30 ?_; intro gb586 hg w5 hbox hb; have BK586 := Aside0.mk (hbox); have GW586 := ge_ hg HB; have GE586 := ge_ hg HB; have NB581_586 := nb_ hg BK581; have NB586_581 := nc_ hg BK581; replace BK581 := kq_ BK581 hb; replace HB := bq_ HB hb; clear hb hbox hg; have hnb6 := NB586_581.out; have hnc6 := NB581_586.out; obtain ⟨hcz7_0, hcz7_1, hcz7_2, hcz7_3, hfz7_0, hfz7_1, hfz7_2, hfz7_3⟩ := c4_ BK586))
 go_loopg [4] k (fun kq v4 w' => ∃ (x4_1 : Int) (x587000_1 : Int) (x587001_1 : Bool) (x587002_1 : Int) (x587003_1 : Int), v4 = .int .i64 x4_1 ∧ Aside0 (pelorusref05_Least.l0 kq l0 x4_1 x587000_1 x587001_1 x587002_1 x587003_1 = some (r1, r2, r3, r4)) ∧ Aside0 (kq ≤ k) ∧ Aside0 (w'.heap[gb581]? = some (.cells #[.int .i64 0, .bool false, .int .u64 0, .int .i64 0] 30 (0, 0))) ∧ Aside0 (w'.heap[gb586]? = some (.cells #[.int .i64 x587000_1, .bool x587001_1, .int .u64 x587002_1, .int .i64 x587003_1] 30 (0, 0))) ∧ Aside0 (Below w.heap.size w w'))
 case atStart => exact ⟨(0), (t582), (t583), (t584), (t585), (by first | rfl | (simp; done) | (simp [*]; done)), H', ⟨Nat.le_refl _⟩, ⟨by refine kb_ ?_; refine bf_ NB581_586 ?_; refine bf_ NB581_586 ?_; refine bf_ NB581_586 ?_; refine bf_ NB581_586 ?_; exact BK581.out⟩, ⟨by refine kb_ ?_; refine bp_ #[.int .i64 t582, .bool t583, .int .u64 t584, .int .i64 0] 3 ?_; refine bp_ #[.int .i64 t582, .bool t583, .int .u64 0, .int .i64 0] 2 ?_; refine bp_ #[.int .i64 t582, .bool false, .int .u64 0, .int .i64 0] 1 ?_; refine bp_ #[.int .i64 0, .bool false, .int .u64 0, .int .i64 0] 0 ?_; exact BK586.out⟩, ⟨bw_ HB.out⟩⟩
 case round =>
  clear H'
  try clear c2
  try clear p2
  try clear c3
  try clear c6
  try clear hcz7_0 hcz7_1 hcz7_2 hcz7_3
  try clear hfz7_0 hfz7_1 hfz7_2 hfz7_3
  obtain ⟨x4_1, x587000_1, x587001_1, x587002_1, x587003_1, rfl, HA, HK1, BK581, BK586, HB⟩ := hrel
  cases gk with
  | zero => exact absurd HA.out (by simp [pelorusref05_Least.l0])
  | succ k1 =>
   have H := HA.out
   clear HA
   simp only [pelorusref05_Least.l0] at H
   by_cases c8 : x4_1 < (l0.length : Int)
   ·rw [if_pos c8] at H
    have c8b0 : decide (x4_1 < (l0.length : Int)) = true := decide_eq_true c8
    clear c8
    by_cases c9 : 0 ≤ x4_1
    ·rw [if_pos c9] at H
     have c9b0 : decide (0 ≤ x4_1) = true := decide_eq_true c9
     clear c9
     replace H := Option.bind_eq_some_iff.mp H
     obtain ⟨t588, A100, H⟩ := H
     (try dsimp only at H)
     have A10 := Aside0.mk A100
     clear A100
     by_cases c11 : t588 < 0
     ·rw [if_pos c11] at H
      have c11b0 : decide (t588 < 0) = true := decide_eq_true c11
      clear c11
      replace H := Option.bind_eq_some_iff.mp H
      obtain ⟨⟨t590, t591, t592, t593⟩, A120, H⟩ := H
      (try dsimp only at H)
      have A12 := Aside0.mk A120
      clear A120
      have H' := Aside0.mk H
      clear H
      try go_wp2
      replace BK581 := Aside0.mk (blk_drew BK581.out)
      replace BK586 := Aside0.mk (blk_drew BK586.out)
      replace HB := Aside0.mk (below_drew1 HB.out)
      have p587 : 0 ≤ (x4_1 : Int) := of_decide_eq_true (by first | (with_reducible assumption) | assumption)
      have q587 : x4_1 < (l0.length : Int) := of_decide_eq_true (by first | (with_reducible assumption) | assumption)
      obtain ⟨ad587, e587, hx587_0, hx587_1, hx587_2, hx587_3⟩ := at_T30 HR0.out x4_1 p587 q587
      have hw587_3 := hx587_3
      have hw587_2 := hx587_2
      have hw587_1 := hx587_1
      have hw587_0 := hx587_0
      cases e587
      replace hx587_0 := (HB.out.cell (World.block_lt_of_cell? w _ hx587_0)).trans hx587_0
      replace hx587_1 := (HB.out.cell (World.block_lt_of_cell? w _ hx587_1)).trans hx587_1
      replace hx587_2 := (HB.out.cell (World.block_lt_of_cell? w _ hx587_2)).trans hx587_2
      replace hx587_3 := (HB.out.cell (World.block_lt_of_cell? w _ hx587_3)).trans hx587_3
      replace p587 := eq_true p587
      replace q587 := eq_true q587
      refine start_ (n := 7) (S := fun w' => w'.cell? ⟨gb586, 0, none⟩ = some (.int .i64 x587000_1) ∧ w'.cell? ⟨gb586, 1, none⟩ = some (.bool x587001_1) ∧ w'.cell? ⟨gb586, 2, none⟩ = some (.int .u64 x587002_1) ∧ w'.cell? ⟨gb586, 3, none⟩ = some (.int .i64 x587003_1) ∧ w'.cell? (ad587.add ((x4_1).toNat * 4)) = some (.int .i64 ((rd_T30 l0 x4_1).f0)) ∧ w'.cell? ⟨(ad587.add ((x4_1).toNat * 4)).block, (ad587.add ((x4_1).toNat * 4)).off + 1, none⟩ = some (.bool ((rd_T30 l0 x4_1).f1)) ∧ w'.cell? ⟨(ad587.add ((x4_1).toNat * 4)).block, (ad587.add ((x4_1).toNat * 4)).off + 2, none⟩ = some (.int .u64 ((rd_T30 l0 x4_1).f2)) ∧ w'.cell? ⟨(ad587.add ((x4_1).toNat * 4)).block, (ad587.add ((x4_1).toNat * 4)).off + 3, none⟩ = some (.int .i64 ((rd_T30 l0 x4_1).f3))) (ds := []) #[false, false, false, false, false, false, false] (by kernel_rfl) rfl rfl ⟨(blk_cell BK586.out 0).trans rfl, (blk_cell BK586.out 1).trans rfl, (blk_cell BK586.out 2).trans rfl, (blk_cell BK586.out 3).trans rfl, ((HB.out.cell (World.block_lt_of_cell? w _ hw587_0)).trans hw587_0), ((HB.out.cell (World.block_lt_of_cell? w _ hw587_1)).trans hw587_1), ((HB.out.cell (World.block_lt_of_cell? w _ hw587_2)).trans hw587_2), ((HB.out.cell (World.block_lt_of_cell? w _ hw587_3)).trans hw587_3)⟩ (fun hHeld => ?_)
      generalize wr.drew = w13 at BK581 BK586 HB hx587_0 hx587_1 hx587_2 hx587_3 hHeld ⊢
      refine pure_ (i := 0) (N := some 12) (v := ?_) (a' := ?_) #[true, false, false, false, false, false, false] rfl rfl (by kernel_rfl) (fun _ _ _ h => h) (Or.inl ⟨by rfl, ?_⟩) ?_ ?_
      rotate_left
      ·intro w'
       go_simp
       with_reducible rfl
      rotate_left
      ·exact pt_
      refine pure_ (i := 1) (N := some 13) (v := ?_) (a' := ?_) #[true, true, false, false, false, false, false] rfl rfl (by kernel_rfl) (fun _ _ _ h => h) (Or.inl ⟨by rfl, ?_⟩) ?_ ?_
      rotate_left
      ·intro w'
       go_simp
       with_reducible rfl
      rotate_left
      ·exact pt_
      refine pure_ (i := 2) (N := some 14) (v := ?_) (a' := ?_) #[true, true, true, false, false, false, false] rfl rfl (by kernel_rfl) (fun _ _ _ h => h) (Or.inl ⟨by rfl, ?_⟩) ?_ ?_
      rotate_left
      ·intro w'
       go_simp
       with_reducible rfl
      rotate_left
      ·exact pt_
      refine take_ (i := 3) (N := some 15) (v := ?_) (a' := ?_) #[true, true, true, true, false, false, false] rfl rfl (by kernel_rfl) (fun _ _ _ h => h) (Or.inl ⟨by rfl, ?_⟩) hHeld ?_ ?_
      rotate_left
      ·rintro w' ⟨s0, s1, s2, s3, s4, s5, s6, s7⟩
       go_simp
       with_reducible rfl
      rotate_left
      ·exact pt_
      refine take_ (i := 4) (N := some 16) (v := ?_) (a' := ?_) #[true, true, true, true, true, false, false] rfl rfl (by kernel_rfl) (fun _ _ _ h => h) (Or.inl ⟨by rfl, ?_⟩) hHeld ?_ ?_
      rotate_left
      ·rintro w' ⟨s0, s1, s2, s3, s4, s5, s6, s7⟩
       go_simp
       with_reducible rfl
      rotate_left
      ·exact pt_
      refine one_ (i := 5) (N := some 17) #[true, true, true, true, true, true, false] rfl rfl (by kernel_rfl) (by decide) (fun K hK => ?_)
      refine gs_ Tryd.func32 #[.agg #[.int .i64 ((rd_T30 l0 x4_1).f0), .bool ((rd_T30 l0 x4_1).f1), .int .u64 ((rd_T30 l0 x4_1).f2), .int .i64 ((rd_T30 l0 x4_1).f3)], .agg #[.int .i64 x587000_1, .bool x587001_1, .int .u64 x587002_1, .int .i64 x587003_1]] ?_
      with_reducible refine (pelorusref05_Cmp.calls k1 ((rd_T30 l0 x4_1).f0) ((rd_T30 l0 x4_1).f1) ((rd_T30 l0 x4_1).f2) ((rd_T30 l0 x4_1).f3) x587000_1 x587001_1 x587002_1 x587003_1 t588 _ A10.out).mono ?_
      rintro e w14 ⟨rfl, hb⟩
      refine ⟨_, rfl, ?_⟩
      replace BK581 := kq_ BK581 hb
      replace BK586 := kq_ BK586 hb
      replace HB := bq_ HB hb
      (try clear hb)
      (try clear hb2)
      (try clear hk)
      (try clear hi)
      refine hK.out _ _ ⟨(blk_cell BK586.out 0).trans rfl, (blk_cell BK586.out 1).trans rfl, (blk_cell BK586.out 2).trans rfl, (blk_cell BK586.out 3).trans rfl, ((HB.out.cell (World.block_lt_of_cell? w _ hw587_0)).trans hw587_0), ((HB.out.cell (World.block_lt_of_cell? w _ hw587_1)).trans hw587_1), ((HB.out.cell (World.block_lt_of_cell? w _ hw587_2)).trans hw587_2), ((HB.out.cell (World.block_lt_of_cell? w _ hw587_3)).trans hw587_3)⟩ (fun hHeld => ?_)
      clear hK K
      refine norm_ (a' := ?_) ?_ ?_
      rotate_left
      ·show Act.put _ (some 17) _ = _
       exact pt_
      refine pure_ (i := 6) (N := some 18) (v := ?_) (a' := ?_) #[true, true, true, true, true, true, true] rfl rfl (by kernel_rfl) (fun _ _ _ h => h) (Or.inl ⟨by rfl, ?_⟩) ?_ ?_
      rotate_left
      ·intro w'
       go_simp
       with_reducible rfl
      rotate_left
      ·exact pt_
      refine done_ (by kernel_rfl) ?_
      have p589 : 0 ≤ (x4_1 : Int) := of_decide_eq_true (by first | (with_reducible assumption) | assumption)
      have q589 : x4_1 < (l0.length : Int) := of_decide_eq_true (by first | (with_reducible assumption) | assumption)
      obtain ⟨ad589, e589, hx589_0, hx589_1, hx589_2, hx589_3⟩ := at_T30 HR0.out x4_1 p589 q589
      obtain rfl : ad587 = ad589 := (by injection e589)
      replace hx589_0 := (HB.out.cell (World.block_lt_of_cell? w _ hx589_0)).trans hx589_0
      replace hx589_1 := (HB.out.cell (World.block_lt_of_cell? w _ hx589_1)).trans hx589_1
      replace hx589_2 := (HB.out.cell (World.block_lt_of_cell? w _ hx589_2)).trans hx589_2
      replace hx589_3 := (HB.out.cell (World.block_lt_of_cell? w _ hx589_3)).trans hx589_3
      replace p589 := eq_true p589
      replace q589 := eq_true q589
      try go_wp2_with (first | ((with_reducible refine gate_callee (f := 54) rfl ?_); refine gl_ (some 23) Tryd.func54 #[.agg #[.int .i64 ((rd_T30 l0 x4_1).f0), .bool ((rd_T30 l0 x4_1).f1), .int .u64 ((rd_T30 l0 x4_1).f2), .int .i64 ((rd_T30 l0 x4_1).f3)]] ?_; (with_reducible refine (pelorusref05_fair.calls ((rd_T30 l0 x4_1).f0) ((rd_T30 l0 x4_1).f1) ((rd_T30 l0 x4_1).f2) ((rd_T30 l0 x4_1).f3) t590 t591 t592 t593 _ A12.out).mono ?_); rintro e w15 ⟨rfl, hb⟩; refine ⟨_, rfl, ?_⟩; replace BK581 := kq_ BK581 hb; replace BK586 := kq_ BK586 hb; replace HB := bq_ HB hb; (try clear hb); (try clear hb2); (try clear hk); (try clear hi); have hnb16 := NB586_581.out; have hnc16 := NB581_586.out; obtain ⟨hcz17_0, hcz17_1, hcz17_2, hcz17_3, hfz17_0, hfz17_1, hfz17_2, hfz17_3⟩ := c4_ BK586))
      go_roundg k1
      case measure => have := HK1.out; omega
      case rel => exact ⟨(wrap64 (x4_1 + 1)), (t590), (t591), (t592), (t593), (by first | rfl | (simp; done) | (simp [*]; done)), H', ⟨by have := HK1.out; omega⟩, ⟨by refine kb_ ?_; refine bf_ NB581_586 ?_; refine bf_ NB581_586 ?_; refine bf_ NB581_586 ?_; refine bf_ NB581_586 ?_; exact BK581.out⟩, ⟨by refine kb_ ?_; refine bp_ #[.int .i64 t590, .bool t591, .int .u64 t592, .int .i64 x587003_1] 3 ?_; refine bp_ #[.int .i64 t590, .bool t591, .int .u64 x587002_1, .int .i64 x587003_1] 2 ?_; refine bp_ #[.int .i64 t590, .bool x587001_1, .int .u64 x587002_1, .int .i64 x587003_1] 1 ?_; refine bp_ #[.int .i64 x587000_1, .bool x587001_1, .int .u64 x587002_1, .int .i64 x587003_1] 0 ?_; exact BK586.out⟩, ⟨bw_ HB.out⟩⟩
     ·rw [if_neg c11] at H
      have c11b0 : decide (t588 < 0) = false := decide_eq_false c11
      clear c11
      have H' := Aside0.mk H
      clear H
      try go_wp2
      replace BK581 := Aside0.mk (blk_drew BK581.out)
      replace BK586 := Aside0.mk (blk_drew BK586.out)
      replace HB := Aside0.mk (below_drew1 HB.out)
      have p587 : 0 ≤ (x4_1 : Int) := of_decide_eq_true (by first | (with_reducible assumption) | assumption)
      have q587 : x4_1 < (l0.length : Int) := of_decide_eq_true (by first | (with_reducible assumption) | assumption)
      obtain ⟨ad587, e587, hx587_0, hx587_1, hx587_2, hx587_3⟩ := at_T30 HR0.out x4_1 p587 q587
      have hw587_3 := hx587_3
      have hw587_2 := hx587_2
      have hw587_1 := hx587_1
      have hw587_0 := hx587_0
      cases e587
      replace hx587_0 := (HB.out.cell (World.block_lt_of_cell? w _ hx587_0)).trans hx587_0
      replace hx587_1 := (HB.out.cell (World.block_lt_of_cell? w _ hx587_1)).trans hx587_1
      replace hx587_2 := (HB.out.cell (World.block_lt_of_cell? w _ hx587_2)).trans hx587_2
      replace hx587_3 := (HB.out.cell (World.block_lt_of_cell? w _ hx587_3)).trans hx587_3
      replace p587 := eq_true p587
      replace q587 := eq_true q587
      refine start_ (n := 7) (S := fun w' => w'.cell? ⟨gb586, 0, none⟩ = some (.int .i64 x587000_1) ∧ w'.cell? ⟨gb586, 1, none⟩ = some (.bool x587001_1) ∧ w'.cell? ⟨gb586, 2, none⟩ = some (.int .u64 x587002_1) ∧ w'.cell? ⟨gb586, 3, none⟩ = some (.int .i64 x587003_1) ∧ w'.cell? (ad587.add ((x4_1).toNat * 4)) = some (.int .i64 ((rd_T30 l0 x4_1).f0)) ∧ w'.cell? ⟨(ad587.add ((x4_1).toNat * 4)).block, (ad587.add ((x4_1).toNat * 4)).off + 1, none⟩ = some (.bool ((rd_T30 l0 x4_1).f1)) ∧ w'.cell? ⟨(ad587.add ((x4_1).toNat * 4)).block, (ad587.add ((x4_1).toNat * 4)).off + 2, none⟩ = some (.int .u64 ((rd_T30 l0 x4_1).f2)) ∧ w'.cell? ⟨(ad587.add ((x4_1).toNat * 4)).block, (ad587.add ((x4_1).toNat * 4)).off + 3, none⟩ = some (.int .i64 ((rd_T30 l0 x4_1).f3))) (ds := []) #[false, false, false, false, false, false, false] (by kernel_rfl) rfl rfl ⟨(blk_cell BK586.out 0).trans rfl, (blk_cell BK586.out 1).trans rfl, (blk_cell BK586.out 2).trans rfl, (blk_cell BK586.out 3).trans rfl, ((HB.out.cell (World.block_lt_of_cell? w _ hw587_0)).trans hw587_0), ((HB.out.cell (World.block_lt_of_cell? w _ hw587_1)).trans hw587_1), ((HB.out.cell (World.block_lt_of_cell? w _ hw587_2)).trans hw587_2), ((HB.out.cell (World.block_lt_of_cell? w _ hw587_3)).trans hw587_3)⟩ (fun hHeld => ?_)
      generalize wr.drew = w18 at BK581 BK586 HB hx587_0 hx587_1 hx587_2 hx587_3 hHeld ⊢
      refine pure_ (i := 0) (N := some 12) (v := ?_) (a' := ?_) #[true, false, false, false, false, false, false] rfl rfl (by kernel_rfl) (fun _ _ _ h => h) (Or.inl ⟨by rfl, ?_⟩) ?_ ?_
      rotate_left
      ·intro w'
       go_simp
       with_reducible rfl
      rotate_left
      ·exact pt_
      refine pure_ (i := 1) (N := some 13) (v := ?_) (a' := ?_) #[true, true, false, false, false, false, false] rfl rfl (by kernel_rfl) (fun _ _ _ h => h) (Or.inl ⟨by rfl, ?_⟩) ?_ ?_
      rotate_left
      ·intro w'
       go_simp
       with_reducible rfl
      rotate_left
      ·exact pt_
      refine pure_ (i := 2) (N := some 14) (v := ?_) (a' := ?_) #[true, true, true, false, false, false, false] rfl rfl (by kernel_rfl) (fun _ _ _ h => h) (Or.inl ⟨by rfl, ?_⟩) ?_ ?_
      rotate_left
      ·intro w'
       go_simp
       with_reducible rfl
      rotate_left
      ·exact pt_
      refine take_ (i := 3) (N := some 15) (v := ?_) (a' := ?_) #[true, true, true, true, false, false, false] rfl rfl (by kernel_rfl) (fun _ _ _ h => h) (Or.inl ⟨by rfl, ?_⟩) hHeld ?_ ?_
      rotate_left
      ·rintro w' ⟨s0, s1, s2, s3, s4, s5, s6, s7⟩
       go_simp
       with_reducible rfl
      rotate_left
      ·exact pt_
      refine take_ (i := 4) (N := some 16) (v := ?_) (a' := ?_) #[true, true, true, true, true, false, false] rfl rfl (by kernel_rfl) (fun _ _ _ h => h) (Or.inl ⟨by rfl, ?_⟩) hHeld ?_ ?_
      rotate_left
      ·rintro w' ⟨s0, s1, s2, s3, s4, s5, s6, s7⟩
       go_simp
       with_reducible rfl
      rotate_left
      ·exact pt_
      refine one_ (i := 5) (N := some 17) #[true, true, true, true, true, true, false] rfl rfl (by kernel_rfl) (by decide) (fun K hK => ?_)
      refine gs_ Tryd.func32 #[.agg #[.int .i64 ((rd_T30 l0 x4_1).f0), .bool ((rd_T30 l0 x4_1).f1), .int .u64 ((rd_T30 l0 x4_1).f2), .int .i64 ((rd_T30 l0 x4_1).f3)], .agg #[.int .i64 x587000_1, .bool x587001_1, .int .u64 x587002_1, .int .i64 x587003_1]] ?_
      with_reducible refine (pelorusref05_Cmp.calls k1 ((rd_T30 l0 x4_1).f0) ((rd_T30 l0 x4_1).f1) ((rd_T30 l0 x4_1).f2) ((rd_T30 l0 x4_1).f3) x587000_1 x587001_1 x587002_1 x587003_1 t588 _ A10.out).mono ?_
      rintro e w19 ⟨rfl, hb⟩
      refine ⟨_, rfl, ?_⟩
      replace BK581 := kq_ BK581 hb
      replace BK586 := kq_ BK586 hb
      replace HB := bq_ HB hb
      (try clear hb)
      (try clear hb2)
      (try clear hk)
      (try clear hi)
      refine hK.out _ _ ⟨(blk_cell BK586.out 0).trans rfl, (blk_cell BK586.out 1).trans rfl, (blk_cell BK586.out 2).trans rfl, (blk_cell BK586.out 3).trans rfl, ((HB.out.cell (World.block_lt_of_cell? w _ hw587_0)).trans hw587_0), ((HB.out.cell (World.block_lt_of_cell? w _ hw587_1)).trans hw587_1), ((HB.out.cell (World.block_lt_of_cell? w _ hw587_2)).trans hw587_2), ((HB.out.cell (World.block_lt_of_cell? w _ hw587_3)).trans hw587_3)⟩ (fun hHeld => ?_)
      clear hK K
      refine norm_ (a' := ?_) ?_ ?_
      rotate_left
      ·show Act.put _ (some 17) _ = _
       exact pt_
      refine pure_ (i := 6) (N := some 18) (v := ?_) (a' := ?_) #[true, true, true, true, true, true, true] rfl rfl (by kernel_rfl) (fun _ _ _ h => h) (Or.inl ⟨by rfl, ?_⟩) ?_ ?_
      rotate_left
      ·intro w'
       go_simp
       with_reducible rfl
      rotate_left
      ·exact pt_
      refine done_ (by kernel_rfl) ?_
      try go_wp2
      go_roundg k1
      case measure => have := HK1.out; omega
      case rel => exact ⟨(wrap64 (x4_1 + 1)), (x587000_1), (x587001_1), (x587002_1), (x587003_1), (by first | rfl | (simp; done) | (simp [*]; done)), H', ⟨by have := HK1.out; omega⟩, ⟨kb_ BK581.out⟩, ⟨kb_ BK586.out⟩, ⟨bw_ HB.out⟩⟩
    ·rw [if_neg c9] at H
     exact absurd H (by simp)
   ·rw [if_neg c8] at H
    have c8b0 : decide (x4_1 < (l0.length : Int)) = false := decide_eq_false c8
    clear c8
    simp only [Option.some.injEq, Prod.mk.injEq] at H
    obtain ⟨rfl, rfl, rfl, rfl⟩ := H
    have hnb20 := NB586_581.out
    have hnc20 := NB581_586.out
    obtain ⟨hcz21_0, hcz21_1, hcz21_2, hcz21_3, hfz21_0, hfz21_1, hfz21_2, hfz21_3⟩ := c4_ BK586
    obtain ⟨hcz22_0, hcz22_1, hcz22_2, hcz22_3, hfz22_0, hfz22_1, hfz22_2, hfz22_3⟩ := c4_ BK581
    go_wp2
    refine bodyPost_ret (results_cell_row rfl _ _ gb581 30 #[.int .i64 x587000_1, .bool x587001_1, .int .u64 x587002_1, .int .i64 x587003_1] (0, 0) _ rfl (by refine kb_ ?_; refine bp_ #[.int .i64 x587000_1, .bool x587001_1, .int .u64 x587002_1, .int .i64 0] 3 ?_; refine bp_ #[.int .i64 x587000_1, .bool x587001_1, .int .u64 0, .int .i64 0] 2 ?_; refine bp_ #[.int .i64 x587000_1, .bool false, .int .u64 0, .int .i64 0] 1 ?_; refine bp_ #[.int .i64 0, .bool false, .int .u64 0, .int .i64 0] 0 ?_; exact BK581.out) Tryd.underlying30 rfl (by kernel_rfl)) rfl ?_
    exact ⟨rf_, bw_ HB.out⟩

/-! ### pelorusref05_Most: function 22 -/
set_option maxHeartbeats 8000000 in
set_option maxRecDepth 100000 in
theorem pelorusref05_Most.calls (k : Nat) (A0 : Option Addr) (c0 : Nat) (l0 : List (S30)) (r1 : Int) (r2 : Bool) (r3 : Int) (r4 : Int) (w : World) (hr0 : Kd.C k30 w A0 l0.length l0) (hc0 : l0.length ≤ c0) (h : pelorusref05_Most.f k l0 = some (r1, r2, r3, r4)) :
  Calls Tryd.prog 22 #[.slice A0 l0.length c0] w fun e w' => e = .returned (.agg #[.int .i64 r1, .bool r2, .int .u64 r3, .int .i64 r4]) ∧ Below w.heap.size w w' := by
 have hu30 := Tryd.underlying30
 have HR0 := Aside0.mk hr0
 have HC0 := Aside0.mk hc0
 clear hr0 hc0
 have HB := Aside0.mk (Below.refl w.heap.size w)
 have H : ((pelorusref05_Infinite.f true).bind fun bt608 => (pelorusref05_Most.l0 k l0 0 bt608.1 bt608.2.1 bt608.2.2.1 bt608.2.2.2)) = some (r1, r2, r3, r4) := h
 clear h
 replace H := Option.bind_eq_some_iff.mp H
 obtain ⟨⟨t608, t609, t610, t611⟩, A20, H⟩ := H
 (try dsimp only at H)
 have A2 := Aside0.mk A20
 clear A20
 have H' := Aside0.mk H
 clear H
 go_enter Tryd.func22, Tryd.ntmps22
 go_wp2_with (first | ((with_reducible refine gate_dst (N := 2) rfl ?_); refine bx_ 2 #[.int .i64 0, .bool false, .int .u64 0, .int .i64 0] 30 ?_; intro gb607 hg w3 hbox hb; have BK607 := Aside0.mk (hbox); have GW607 := ge_ hg HB; have GE607 := ge_ hg HB; replace HB := bq_ HB hb; clear hb hbox hg) | ((with_reducible refine gate_callee (f := 34) rfl ?_); refine gl_ (some 5) Tryd.func34 #[.bool true] ?_; (with_reducible refine (pelorusref05_Infinite.calls true t608 t609 t610 t611 _ A2.out).mono ?_); rintro e w4 ⟨rfl, hb⟩; refine ⟨_, rfl, ?_⟩; replace BK607 := kq_ BK607 hb; replace HB := bq_ HB hb; (try clear hb); (try clear hb2); (try clear hk); (try clear hi)) | ((with_reducible refine gate_dst (N := 3) rfl ?_); refine bx_ 3 #[.int .i64 0, .bool false, .int .u64 0, .int .i64 0] 30 ?_; intro gb612 hg w5 hbox hb; have BK612 := Aside0.mk (hbox); have GW612 := ge_ hg HB; have GE612 := ge_ hg HB; have NB607_612 := nb_ hg BK607; have NB612_607 := nc_ hg BK607; replace BK607 := kq_ BK607 hb; replace HB := bq_ HB hb; clear hb hbox hg; have hnb6 := NB612_607.out; have hnc6 := NB607_612.out; obtain ⟨hcz7_0, hcz7_1, hcz7_2, hcz7_3, hfz7_0, hfz7_1, hfz7_2, hfz7_3⟩ := c4_ BK612))
 go_loopg [4] k (fun kq v4 w' => ∃ (x4_1 : Int) (x613000_1 : Int) (x613001_1 : Bool) (x613002_1 : Int) (x613003_1 : Int), v4 = .int .i64 x4_1 ∧ Aside0 (pelorusref05_Most.l0 kq l0 x4_1 x613000_1 x613001_1 x613002_1 x613003_1 = some (r1, r2, r3, r4)) ∧ Aside0 (kq ≤ k) ∧ Aside0 (w'.heap[gb607]? = some (.cells #[.int .i64 0, .bool false, .int .u64 0, .int .i64 0] 30 (0, 0))) ∧ Aside0 (w'.heap[gb612]? = some (.cells #[.int .i64 x613000_1, .bool x613001_1, .int .u64 x613002_1, .int .i64 x613003_1] 30 (0, 0))) ∧ Aside0 (Below w.heap.size w w'))
 case atStart => exact ⟨(0), (t608), (t609), (t610), (t611), (by first | rfl | (simp; done) | (simp [*]; done)), H', ⟨Nat.le_refl _⟩, ⟨by refine kb_ ?_; refine bf_ NB607_612 ?_; refine bf_ NB607_612 ?_; refine bf_ NB607_612 ?_; refine bf_ NB607_612 ?_; exact BK607.out⟩, ⟨by refine kb_ ?_; refine bp_ #[.int .i64 t608, .bool t609, .int .u64 t610, .int .i64 0] 3 ?_; refine bp_ #[.int .i64 t608, .bool t609, .int .u64 0, .int .i64 0] 2 ?_; refine bp_ #[.int .i64 t608, .bool false, .int .u64 0, .int .i64 0] 1 ?_; refine bp_ #[.int .i64 0, .bool false, .int .u64 0, .int .i64 0] 0 ?_; exact BK612.out⟩, ⟨bw_ HB.out⟩⟩
 case round =>
  clear H'
  try clear c2
  try clear p2
  try clear c3
  try clear c6
  try clear hcz7_0 hcz7_1 hcz7_2 hcz7_3
  try clear hfz7_0 hfz7_1 hfz7_2 hfz7_3
  obtain ⟨x4_1, x613000_1, x613001_1, x613002_1, x613003_1, rfl, HA, HK1, BK607, BK612, HB⟩ := hrel
  cases gk with
  | zero => exact absurd HA.out (by simp [pelorusref05_Most.l0])
  | succ k1 =>
   have H := HA.out
   clear HA
   simp only [pelorusref05_Most.l0] at H
   by_cases c8 : x4_1 < (l0.length : Int)
   ·rw [if_pos c8] at H
    have c8b0 : decide (x4_1 < (l0.length : Int)) = true := decide_eq_true c8
    clear c8
    by_cases c9 : 0 ≤ x4_1
    ·rw [if_pos c9] at H
     have c9b0 : decide (0 ≤ x4_1) = true := decide_eq_true c9
     clear c9
     replace H := Option.bind_eq_some_iff.mp H
     obtain ⟨t614, A100, H⟩ := H
     (try dsimp only at H)
     have A10 := Aside0.mk A100
     clear A100
     by_cases c11 : t614 > 0
     ·rw [if_pos c11] at H
      have c11b0 : decide (0 < t614) = true := decide_eq_true c11
      clear c11
      replace H := Option.bind_eq_some_iff.mp H
      obtain ⟨⟨t616, t617, t618, t619⟩, A120, H⟩ := H
      (try dsimp only at H)
      have A12 := Aside0.mk A120
      clear A120
      have H' := Aside0.mk H
      clear H
      try go_wp2
      replace BK607 := Aside0.mk (blk_drew BK607.out)
      replace BK612 := Aside0.mk (blk_drew BK612.out)
      replace HB := Aside0.mk (below_drew1 HB.out)
      have p613 : 0 ≤ (x4_1 : Int) := of_decide_eq_true (by first | (with_reducible assumption) | assumption)
      have q613 : x4_1 < (l0.length : Int) := of_decide_eq_true (by first | (with_reducible assumption) | assumption)
      obtain ⟨ad613, e613, hx613_0, hx613_1, hx613_2, hx613_3⟩ := at_T30 HR0.out x4_1 p613 q613
      have hw613_3 := hx613_3
      have hw613_2 := hx613_2
      have hw613_1 := hx613_1
      have hw613_0 := hx613_0
      cases e613
      replace hx613_0 := (HB.out.cell (World.block_lt_of_cell? w _ hx613_0)).trans hx613_0
      replace hx613_1 := (HB.out.cell (World.block_lt_of_cell? w _ hx613_1)).trans hx613_1
      replace hx613_2 := (HB.out.cell (World.block_lt_of_cell? w _ hx613_2)).trans hx613_2
      replace hx613_3 := (HB.out.cell (World.block_lt_of_cell? w _ hx613_3)).trans hx613_3
      replace p613 := eq_true p613
      replace q613 := eq_true q613
      refine start_ (n := 7) (S := fun w' => w'.cell? ⟨gb612, 0, none⟩ = some (.int .i64 x613000_1) ∧ w'.cell? ⟨gb612, 1, none⟩ = some (.bool x613001_1) ∧ w'.cell? ⟨gb612, 2, none⟩ = some (.int .u64 x613002_1) ∧ w'.cell? ⟨gb612, 3, none⟩ = some (.int .i64 x613003_1) ∧ w'.cell? (ad613.add ((x4_1).toNat * 4)) = some (.int .i64 ((rd_T30 l0 x4_1).f0)) ∧ w'.cell? ⟨(ad613.add ((x4_1).toNat * 4)).block, (ad613.add ((x4_1).toNat * 4)).off + 1, none⟩ = some (.bool ((rd_T30 l0 x4_1).f1)) ∧ w'.cell? ⟨(ad613.add ((x4_1).toNat * 4)).block, (ad613.add ((x4_1).toNat * 4)).off + 2, none⟩ = some (.int .u64 ((rd_T30 l0 x4_1).f2)) ∧ w'.cell? ⟨(ad613.add ((x4_1).toNat * 4)).block, (ad613.add ((x4_1).toNat * 4)).off + 3, none⟩ = some (.int .i64 ((rd_T30 l0 x4_1).f3))) (ds := []) #[false, false, false, false, false, false, false] (by kernel_rfl) rfl rfl ⟨(blk_cell BK612.out 0).trans rfl, (blk_cell BK612.out 1).trans rfl, (blk_cell BK612.out 2).trans rfl, (blk_cell BK612.out 3).trans rfl, ((HB.out.cell (World.block_lt_of_cell? w _ hw613_0)).trans hw613_0), ((HB.out.cell (World.block_lt_of_cell? w _ hw613_1)).trans hw613_1), ((HB.out.cell (World.block_lt_of_cell? w _ hw613_2)).trans hw613_2), ((HB.out.cell (World.block_lt_of_cell? w _ hw613_3)).trans hw613_3)⟩ (fun hHeld => ?_)
      generalize wr.drew = w13 at BK607 BK612 HB hx613_0 hx613_1 hx613_2 hx613_3 hHeld ⊢
      refine pure_ (i := 0) (N := some 12) (v := ?_) (a' := ?_) #[true, false, false, false, false, false, false] rfl rfl (by kernel_rfl) (fun _ _ _ h => h) (Or.inl ⟨by rfl, ?_⟩) ?_ ?_
      rotate_left
      ·intro w'
       go_simp
       with_reducible rfl
      rotate_left
      ·exact pt_
      refine pure_ (i := 1) (N := some 13) (v := ?_) (a' := ?_) #[true, true, false, false, false, false, false] rfl rfl (by kernel_rfl) (fun _ _ _ h => h) (Or.inl ⟨by rfl, ?_⟩) ?_ ?_
      rotate_left
      ·intro w'
       go_simp
       with_reducible rfl
      rotate_left
      ·exact pt_
      refine pure_ (i := 2) (N := some 14) (v := ?_) (a' := ?_) #[true, true, true, false, false, false, false] rfl rfl (by kernel_rfl) (fun _ _ _ h => h) (Or.inl ⟨by rfl, ?_⟩) ?_ ?_
      rotate_left
      ·intro w'
       go_simp
       with_reducible rfl
      rotate_left
      ·exact pt_
      refine take_ (i := 3) (N := some 15) (v := ?_) (a' := ?_) #[true, true, true, true, false, false, false] rfl rfl (by kernel_rfl) (fun _ _ _ h => h) (Or.inl ⟨by rfl, ?_⟩) hHeld ?_ ?_
      rotate_left
      ·rintro w' ⟨s0, s1, s2, s3, s4, s5, s6, s7⟩
       go_simp
       with_reducible rfl
      rotate_left
      ·exact pt_
      refine take_ (i := 4) (N := some 16) (v := ?_) (a' := ?_) #[true, true, true, true, true, false, false] rfl rfl (by kernel_rfl) (fun _ _ _ h => h) (Or.inl ⟨by rfl, ?_⟩) hHeld ?_ ?_
      rotate_left
      ·rintro w' ⟨s0, s1, s2, s3, s4, s5, s6, s7⟩
       go_simp
       with_reducible rfl
      rotate_left
      ·exact pt_
      refine one_ (i := 5) (N := some 17) #[true, true, true, true, true, true, false] rfl rfl (by kernel_rfl) (by decide) (fun K hK => ?_)
      refine gs_ Tryd.func32 #[.agg #[.int .i64 ((rd_T30 l0 x4_1).f0), .bool ((rd_T30 l0 x4_1).f1), .int .u64 ((rd_T30 l0 x4_1).f2), .int .i64 ((rd_T30 l0 x4_1).f3)], .agg #[.int .i64 x613000_1, .bool x613001_1, .int .u64 x613002_1, .int .i64 x613003_1]] ?_
      with_reducible refine (pelorusref05_Cmp.calls k1 ((rd_T30 l0 x4_1).f0) ((rd_T30 l0 x4_1).f1) ((rd_T30 l0 x4_1).f2) ((rd_T30 l0 x4_1).f3) x613000_1 x613001_1 x613002_1 x613003_1 t614 _ A10.out).mono ?_
      rintro e w14 ⟨rfl, hb⟩
      refine ⟨_, rfl, ?_⟩
      replace BK607 := kq_ BK607 hb
      replace BK612 := kq_ BK612 hb
      replace HB := bq_ HB hb
      (try clear hb)
      (try clear hb2)
      (try clear hk)
      (try clear hi)
      refine hK.out _ _ ⟨(blk_cell BK612.out 0).trans rfl, (blk_cell BK612.out 1).trans rfl, (blk_cell BK612.out 2).trans rfl, (blk_cell BK612.out 3).trans rfl, ((HB.out.cell (World.block_lt_of_cell? w _ hw613_0)).trans hw613_0), ((HB.out.cell (World.block_lt_of_cell? w _ hw613_1)).trans hw613_1), ((HB.out.cell (World.block_lt_of_cell? w _ hw613_2)).trans hw613_2), ((HB.out.cell (World.block_lt_of_cell? w _ hw613_3)).trans hw613_3)⟩ (fun hHeld => ?_)
      clear hK K
      refine norm_ (a' := ?_) ?_ ?_
      rotate_left
      ·show Act.put _ (some 17) _ = _
       exact pt_
      refine pure_ (i := 6) (N := some 18) (v := ?_) (a' := ?_) #[true, true, true, true, true, true, true] rfl rfl (by kernel_rfl) (fun _ _ _ h => h) (Or.inl ⟨by rfl, ?_⟩) ?_ ?_
      rotate_left
      ·intro w'
       go_simp
       with_reducible rfl
      rotate_left
      ·exact pt_
      refine done_ (by kernel_rfl) ?_
      have p615 : 0 ≤ (x4_1 : Int) := of_decide_eq_true (by first | (with_reducible assumption) | assumption)
      have q615 : x4_1 < (l0.length : Int) := of_decide_eq_true (by first | (with_reducible assumption) | assumption)
      obtain ⟨ad615, e615, hx615_0, hx615_1, hx615_2, hx615_3⟩ := at_T30 HR0.out x4_1 p615 q615
      obtain rfl : ad613 = ad615 := (by injection e615)
      replace hx615_0 := (HB.out.cell (World.block_lt_of_cell? w _ hx615_0)).trans hx615_0
      replace hx615_1 := (HB.out.cell (World.block_lt_of_cell? w _ hx615_1)).trans hx615_1
      replace hx615_2 := (HB.out.cell (World.block_lt_of_cell? w _ hx615_2)).trans hx615_2
      replace hx615_3 := (HB.out.cell (World.block_lt_of_cell? w _ hx615_3)).trans hx615_3
      replace p615 := eq_true p615
      replace q615 := eq_true q615
      try go_wp2_with (first | ((with_reducible refine gate_callee (f := 54) rfl ?_); refine gl_ (some 23) Tryd.func54 #[.agg #[.int .i64 ((rd_T30 l0 x4_1).f0), .bool ((rd_T30 l0 x4_1).f1), .int .u64 ((rd_T30 l0 x4_1).f2), .int .i64 ((rd_T30 l0 x4_1).f3)]] ?_; (with_reducible refine (pelorusref05_fair.calls ((rd_T30 l0 x4_1).f0) ((rd_T30 l0 x4_1).f1) ((rd_T30 l0 x4_1).f2) ((rd_T30 l0 x4_1).f3) t616 t617 t618 t619 _ A12.out).mono ?_); rintro e w15 ⟨rfl, hb⟩; refine ⟨_, rfl, ?_⟩; replace BK607 := kq_ BK607 hb; replace BK612 := kq_ BK612 hb; replace HB := bq_ HB hb; (try clear hb); (try clear hb2); (try clear hk); (try clear hi); have hnb16 := NB612_607.out; have hnc16 := NB607_612.out; obtain ⟨hcz17_0, hcz17_1, hcz17_2, hcz17_3, hfz17_0, hfz17_1, hfz17_2, hfz17_3⟩ := c4_ BK612))
      go_roundg k1
      case measure => have := HK1.out; omega
      case rel => exact ⟨(wrap64 (x4_1 + 1)), (t616), (t617), (t618), (t619), (by first | rfl | (simp; done) | (simp [*]; done)), H', ⟨by have := HK1.out; omega⟩, ⟨by refine kb_ ?_; refine bf_ NB607_612 ?_; refine bf_ NB607_612 ?_; refine bf_ NB607_612 ?_; refine bf_ NB607_612 ?_; exact BK607.out⟩, ⟨by refine kb_ ?_; refine bp_ #[.int .i64 t616, .bool t617, .int .u64 t618, .int .i64 x613003_1] 3 ?_; refine bp_ #[.int .i64 t616, .bool t617, .int .u64 x613002_1, .int .i64 x613003_1] 2 ?_; refine bp_ #[.int .i64 t616, .bool x613001_1, .int .u64 x613002_1, .int .i64 x613003_1] 1 ?_; refine bp_ #[.int .i64 x613000_1, .bool x613001_1, .int .u64 x613002_1, .int .i64 x613003_1] 0 ?_; exact BK612.out⟩, ⟨bw_ HB.out⟩⟩
     ·rw [if_neg c11] at H
      have c11b0 : decide (0 < t614) = false := decide_eq_false c11
      clear c11
      have H' := Aside0.mk H
      clear H
      try go_wp2
      replace BK607 := Aside0.mk (blk_drew BK607.out)
      replace BK612 := Aside0.mk (blk_drew BK612.out)
      replace HB := Aside0.mk (below_drew1 HB.out)
      have p613 : 0 ≤ (x4_1 : Int) := of_decide_eq_true (by first | (with_reducible assumption) | assumption)
      have q613 : x4_1 < (l0.length : Int) := of_decide_eq_true (by first | (with_reducible assumption) | assumption)
      obtain ⟨ad613, e613, hx613_0, hx613_1, hx613_2, hx613_3⟩ := at_T30 HR0.out x4_1 p613 q613
      have hw613_3 := hx613_3
      have hw613_2 := hx613_2
      have hw613_1 := hx613_1
      have hw613_0 := hx613_0
      cases e613
      replace hx613_0 := (HB.out.cell (World.block_lt_of_cell? w _ hx613_0)).trans hx613_0
      replace hx613_1 := (HB.out.cell (World.block_lt_of_cell? w _ hx613_1)).trans hx613_1
      replace hx613_2 := (HB.out.cell (World.block_lt_of_cell? w _ hx613_2)).trans hx613_2
      replace hx613_3 := (HB.out.cell (World.block_lt_of_cell? w _ hx613_3)).trans hx613_3
      replace p613 := eq_true p613
      replace q613 := eq_true q613
      refine start_ (n := 7) (S := fun w' => w'.cell? ⟨gb612, 0, none⟩ = some (.int .i64 x613000_1) ∧ w'.cell? ⟨gb612, 1, none⟩ = some (.bool x613001_1) ∧ w'.cell? ⟨gb612, 2, none⟩ = some (.int .u64 x613002_1) ∧ w'.cell? ⟨gb612, 3, none⟩ = some (.int .i64 x613003_1) ∧ w'.cell? (ad613.add ((x4_1).toNat * 4)) = some (.int .i64 ((rd_T30 l0 x4_1).f0)) ∧ w'.cell? ⟨(ad613.add ((x4_1).toNat * 4)).block, (ad613.add ((x4_1).toNat * 4)).off + 1, none⟩ = some (.bool ((rd_T30 l0 x4_1).f1)) ∧ w'.cell? ⟨(ad613.add ((x4_1).toNat * 4)).block, (ad613.add ((x4_1).toNat * 4)).off + 2, none⟩ = some (.int .u64 ((rd_T30 l0 x4_1).f2)) ∧ w'.cell? ⟨(ad613.add ((x4_1).toNat * 4)).block, (ad613.add ((x4_1).toNat * 4)).off + 3, none⟩ = some (.int .i64 ((rd_T30 l0 x4_1).f3))) (ds := []) #[false, false, false, false, false, false, false] (by kernel_rfl) rfl rfl ⟨(blk_cell BK612.out 0).trans rfl, (blk_cell BK612.out 1).trans rfl, (blk_cell BK612.out 2).trans rfl, (blk_cell BK612.out 3).trans rfl, ((HB.out.cell (World.block_lt_of_cell? w _ hw613_0)).trans hw613_0), ((HB.out.cell (World.block_lt_of_cell? w _ hw613_1)).trans hw613_1), ((HB.out.cell (World.block_lt_of_cell? w _ hw613_2)).trans hw613_2), ((HB.out.cell (World.block_lt_of_cell? w _ hw613_3)).trans hw613_3)⟩ (fun hHeld => ?_)
      generalize wr.drew = w18 at BK607 BK612 HB hx613_0 hx613_1 hx613_2 hx613_3 hHeld ⊢
      refine pure_ (i := 0) (N := some 12) (v := ?_) (a' := ?_) #[true, false, false, false, false, false, false] rfl rfl (by kernel_rfl) (fun _ _ _ h => h) (Or.inl ⟨by rfl, ?_⟩) ?_ ?_
      rotate_left
      ·intro w'
       go_simp
       with_reducible rfl
      rotate_left
      ·exact pt_
      refine pure_ (i := 1) (N := some 13) (v := ?_) (a' := ?_) #[true, true, false, false, false, false, false] rfl rfl (by kernel_rfl) (fun _ _ _ h => h) (Or.inl ⟨by rfl, ?_⟩) ?_ ?_
      rotate_left
      ·intro w'
       go_simp
       with_reducible rfl
      rotate_left
      ·exact pt_
      refine pure_ (i := 2) (N := some 14) (v := ?_) (a' := ?_) #[true, true, true, false, false, false, false] rfl rfl (by kernel_rfl) (fun _ _ _ h => h) (Or.inl ⟨by rfl, ?_⟩) ?_ ?_
      rotate_left
      ·intro w'
       go_simp
       with_reducible rfl
      rotate_left
      ·exact pt_
      refine take_ (i := 3) (N := some 15) (v := ?_) (a' := ?_) #[true, true, true, true, false, false, false] rfl rfl (by kernel_rfl) (fun _ _ _ h => h) (Or.inl ⟨by rfl, ?_⟩) hHeld ?_ ?_
      rotate_left
      ·rintro w' ⟨s0, s1, s2, s3, s4, s5, s6, s7⟩
       go_simp
       with_reducible rfl
      rotate_left
      ·exact pt_
      refine take_ (i := 4) (N := some 16) (v := ?_) (a' := ?_) #[true, true, true, true, true, false, false] rfl rfl (by kernel_rfl) (fun _ _ _ h => h) (Or.inl ⟨by rfl, ?_⟩) hHeld ?_ ?_
      rotate_left
      ·rintro w' ⟨s0, s1, s2, s3, s4, s5, s6, s7⟩
       go_simp
       with_reducible rfl
      rotate_left
      ·exact pt_
      refine one_ (i := 5) (N := some 17) #[true, true, true, true, true, true, false] rfl rfl (by kernel_rfl) (by decide) (fun K hK => ?_)
      refine gs_ Tryd.func32 #[.agg #[.int .i64 ((rd_T30 l0 x4_1).f0), .bool ((rd_T30 l0 x4_1).f1), .int .u64 ((rd_T30 l0 x4_1).f2), .int .i64 ((rd_T30 l0 x4_1).f3)], .agg #[.int .i64 x613000_1, .bool x613001_1, .int .u64 x613002_1, .int .i64 x613003_1]] ?_
      with_reducible refine (pelorusref05_Cmp.calls k1 ((rd_T30 l0 x4_1).f0) ((rd_T30 l0 x4_1).f1) ((rd_T30 l0 x4_1).f2) ((rd_T30 l0 x4_1).f3) x613000_1 x613001_1 x613002_1 x613003_1 t614 _ A10.out).mono ?_
      rintro e w19 ⟨rfl, hb⟩
      refine ⟨_, rfl, ?_⟩
      replace BK607 := kq_ BK607 hb
      replace BK612 := kq_ BK612 hb
      replace HB := bq_ HB hb
      (try clear hb)
      (try clear hb2)
      (try clear hk)
      (try clear hi)
      refine hK.out _ _ ⟨(blk_cell BK612.out 0).trans rfl, (blk_cell BK612.out 1).trans rfl, (blk_cell BK612.out 2).trans rfl, (blk_cell BK612.out 3).trans rfl, ((HB.out.cell (World.block_lt_of_cell? w _ hw613_0)).trans hw613_0), ((HB.out.cell (World.block_lt_of_cell? w _ hw613_1)).trans hw613_1), ((HB.out.cell (World.block_lt_of_cell? w _ hw613_2)).trans hw613_2), ((HB.out.cell (World.block_lt_of_cell? w _ hw613_3)).trans hw613_3)⟩ (fun hHeld => ?_)
      clear hK K
      refine norm_ (a' := ?_) ?_ ?_
      rotate_left
      ·show Act.put _ (some 17) _ = _
       exact pt_
      refine pure_ (i := 6) (N := some 18) (v := ?_) (a' := ?_) #[true, true, true, true, true, true, true] rfl rfl (by kernel_rfl) (fun _ _ _ h => h) (Or.inl ⟨by rfl, ?_⟩) ?_ ?_
      rotate_left
      ·intro w'
       go_simp
       with_reducible rfl
      rotate_left
      ·exact pt_
      refine done_ (by kernel_rfl) ?_
      try go_wp2
      go_roundg k1
      case measure => have := HK1.out; omega
      case rel => exact ⟨(wrap64 (x4_1 + 1)), (x613000_1), (x613001_1), (x613002_1), (x613003_1), (by first | rfl | (simp; done) | (simp [*]; done)), H', ⟨by have := HK1.out; omega⟩, ⟨kb_ BK607.out⟩, ⟨kb_ BK612.out⟩, ⟨bw_ HB.out⟩⟩
    ·rw [if_neg c9] at H
     exact absurd H (by simp)
   ·rw [if_neg c8] at H
    have c8b0 : decide (x4_1 < (l0.length : Int)) = false := decide_eq_false c8
    clear c8
    simp only [Option.some.injEq, Prod.mk.injEq] at H
    obtain ⟨rfl, rfl, rfl, rfl⟩ := H
    have hnb20 := NB612_607.out
    have hnc20 := NB607_612.out
    obtain ⟨hcz21_0, hcz21_1, hcz21_2, hcz21_3, hfz21_0, hfz21_1, hfz21_2, hfz21_3⟩ := c4_ BK612
    obtain ⟨hcz22_0, hcz22_1, hcz22_2, hcz22_3, hfz22_0, hfz22_1, hfz22_2, hfz22_3⟩ := c4_ BK607
    go_wp2
    refine bodyPost_ret (results_cell_row rfl _ _ gb607 30 #[.int .i64 x613000_1, .bool x613001_1, .int .u64 x613002_1, .int .i64 x613003_1] (0, 0) _ rfl (by refine kb_ ?_; refine bp_ #[.int .i64 x613000_1, .bool x613001_1, .int .u64 x613002_1, .int .i64 0] 3 ?_; refine bp_ #[.int .i64 x613000_1, .bool x613001_1, .int .u64 0, .int .i64 0] 2 ?_; refine bp_ #[.int .i64 x613000_1, .bool false, .int .u64 0, .int .i64 0] 1 ?_; refine bp_ #[.int .i64 0, .bool false, .int .u64 0, .int .i64 0] 0 ?_; exact BK607.out) Tryd.underlying30 rfl (by kernel_rfl)) rfl ?_
    exact ⟨rf_, bw_ HB.out⟩

/-! ### pelorusref02_From: function 55 -/
set_option maxHeartbeats 8000000 in
set_option maxRecDepth 100000 in
theorem pelorusref02_From.calls (k : Nat) (a0 : Int) (r1 : Bool) (r2 : List Int) (w : World) (h : pelorusref02_From.f k a0 = some (r1, r2)) :
  Calls Tryd.prog 55 #[.int .i64 a0] w fun e w' => ∃ v1_ : Value, e = .returned (.agg #[.bool r1, v1_]) ∧ Kd.R (Kd.int .u32) 53 w' w.heap.size (fun _ => True) v1_ r2 ∧ Below w.heap.size w w' := by
 have hu24 := Tryd.underlying24
 have HB := Aside0.mk (Below.refl w.heap.size w)
 have H : (if a0 < 0 then ((pelorusref02_Make.f k (decide (a0 < 0)) (([(Int.tmod (IntKind.u64.wrap ((IntKind.u64.wrap (wrap64 (-(wrap64 (a0 + 1))))) + 1)) 4294967296) % 4294967296, (IntKind.u64.wrap (Int.tdiv (IntKind.u64.wrap ((IntKind.u64.wrap (wrap64 (-(wrap64 (a0 + 1))))) + 1)) 4294967296)) % 4294967296] : List Int))).bind fun bt624 => (some (bt624.1, bt624.2))) else ((pelorusref02_Make.f k (decide (a0 < 0)) (([(Int.tmod (IntKind.u64.wrap (a0)) 4294967296) % 4294967296, (IntKind.u64.wrap (Int.tdiv (IntKind.u64.wrap (a0)) 4294967296)) % 4294967296] : List Int))).bind fun bt631 => (some (bt631.1, bt631.2)))) = some (r1, r2) := h
 clear h
 by_cases c2 : a0 < 0
 ·rw [if_pos c2] at H
  have c2b0 : decide (a0 < 0) = true := decide_eq_true c2
  clear c2
  obtain ⟨y621, hy621⟩ : ∃ y_ : List Int, y_ = (([(Int.tmod (IntKind.u64.wrap ((IntKind.u64.wrap (wrap64 (-(wrap64 (a0 + 1))))) + 1)) 4294967296) % 4294967296, (IntKind.u64.wrap (Int.tdiv (IntKind.u64.wrap ((IntKind.u64.wrap (wrap64 (-(wrap64 (a0 + 1))))) + 1)) 4294967296)) % 4294967296] : List Int)) := ⟨_, rfl⟩
  replace H : ((pelorusref02_Make.f k (decide (a0 < 0)) y621).bind fun bt624 => (some (bt624.1, bt624.2))) = some (r1, r2) := by first | (rw [hy621]; with_reducible exact H) | (have H2_ := (Option.bind_some _ _).symm.trans H; rw [hy621]; with_reducible exact H2_) | (have H2_ := (Option.bind_some _ _).symm.trans H; with_reducible exact H2_) | with_reducible exact H | (rw [hy621]; exact H) | exact H
  have Ny621 := Aside0.mk hy621
  clear hy621
  replace H := Option.bind_eq_some_iff.mp H
  obtain ⟨⟨t624, t625⟩, A30, H⟩ := H
  (try dsimp only at H)
  have A3 := Aside0.mk A30
  clear A30
  simp only [Option.some.injEq, Prod.mk.injEq] at H
  obtain ⟨rfl, rfl⟩ := H
  go_enter Tryd.func55, Tryd.ntmps55
  go_wp2_with (first | ((with_reducible refine gate_dst (N := 2) rfl ?_); refine bx_ 2 #[.bool false, .slice none 0 0] 24 ?_; intro gb620 hg w4 hbox hb; have BK620 := Aside0.mk (hbox); have GW620 := ge_ hg HB; have GE620 := ge_ hg HB; replace HB := bq_ HB hb; clear hb hbox hg) | ((with_reducible refine gate_dst (N := 21) rfl ?_); refine Kd.R_lit (Kd.int .u32) _ 53 ?hg (N := 21) ?hd (xs := ([(Int.tmod (IntKind.u64.wrap ((IntKind.u64.wrap (wrap64 (-(wrap64 (a0 + 1))))) + 1)) 4294967296) % 4294967296, (IntKind.u64.wrap (Int.tdiv (IntKind.u64.wrap ((IntKind.u64.wrap (wrap64 (-(wrap64 (a0 + 1))))) + 1)) 4294967296)) % 4294967296] : List Int)) (inner := [.int .u32 ((Int.tmod (IntKind.u64.wrap ((IntKind.u64.wrap (wrap64 (-(wrap64 (a0 + 1))))) + 1)) 4294967296) % 4294967296), .int .u32 ((IntKind.u64.wrap (Int.tdiv (IntKind.u64.wrap ((IntKind.u64.wrap (wrap64 (-(wrap64 (a0 + 1))))) + 1)) 4294967296)) % 4294967296)]) (ok := fun _ => True) (okp := fun _ => True) ?hr ?hp (fun _ hk => hk) trivial (Below.refl _ _) (Nat.le_refl _) (by simp) ?_; (case hd => rfl); (case hg => rfl); (case hr => first | (go_simp; done) | (go_simp; rfl)); (case hp => exact (Reps.one (show Kd.M (Kd.int .u32) _ _ _ ((Int.tmod (IntKind.u64.wrap ((IntKind.u64.wrap (wrap64 (-(wrap64 (a0 + 1))))) + 1)) 4294967296) % 4294967296) [.int .u32 ((Int.tmod (IntKind.u64.wrap ((IntKind.u64.wrap (wrap64 (-(wrap64 (a0 + 1))))) + 1)) 4294967296) % 4294967296)] from rfl) (Reps.one (show Kd.M (Kd.int .u32) _ _ _ ((IntKind.u64.wrap (Int.tdiv (IntKind.u64.wrap ((IntKind.u64.wrap (wrap64 (-(wrap64 (a0 + 1))))) + 1)) 4294967296)) % 4294967296) [.int .u32 ((IntKind.u64.wrap (Int.tdiv (IntKind.u64.wrap ((IntKind.u64.wrap (wrap64 (-(wrap64 (a0 + 1))))) + 1)) 4294967296)) % 4294967296)] from rfl) (Reps.none _ _)))); intro v622 w5 ho6 hb hg_ hnew_; clear hg_ hnew_; (first | rw [← Ny621.out] at ho6 | (simp only [Int.reduceToNat] at ho6; rw [← Ny621.out] at ho6)); have HO623 := Aside0.mk (Kd.R_lower ho6 (below_size (bw_ HB.out))); replace BK620 := kq_ BK620 hb; replace HB := bq_ HB hb; clear hb ho6; obtain ⟨Ao7, co7, eo7⟩ := Kd.R_slice HO623.out; subst eo7) | ((with_reducible refine gate_callee (f := 60) rfl ?_); refine gl_ (some 22) Tryd.func60 #[.bool (decide (a0 < 0)), .slice Ao7 y621.length co7] ?_; (with_reducible refine (pelorusref02_Make.calls k (decide (a0 < 0)) _ _ y621 t624 t625 _ ?side1 ?side2 A3.out).mono ?_); (case side1 => exact kc_ (Kd.R_reads' HO623.out).2.2); (case side2 => exact (Kd.R_reads' HO623.out).2.1); rintro e w8 ⟨v626, rfl, ho0, hb⟩; refine ⟨_, rfl, ?_⟩; have HO627 := Aside0.mk (Kd.R_lower (Kd.R_new' ho0 (Kd.R_lt (kr_ HO623.out))) (below_size (bw_ HB.out))); replace HO623 := Aside0.mk (Kd.R_elder' (kr_ HO623.out) (Kd.R_base ho0) hb); replace BK620 := kq_ BK620 hb; replace HB := bq_ HB hb; (try clear hb); (try clear hb2); (try clear hk); (try clear hi); (try clear ho0); obtain ⟨hcz9_0, hcz9_1, hfz9_0, hfz9_1⟩ := c2_ BK620; obtain ⟨Ao10, co10, eo10⟩ := Kd.R_slice HO627.out; subst eo10))
  refine bodyPost_ret (results_cell_row rfl _ _ gb620 24 #[.bool t624, .slice Ao10 t625.length co10] (0, 0) _ rfl (by refine kb_ ?_; refine bp_ #[.bool t624, .slice none 0 0] 1 ?_; refine bp_ #[.bool false, .slice none 0 0] 0 ?_; exact BK620.out) Tryd.underlying24 rfl (by kernel_rfl)) rfl ?_
  exact ⟨_, rf_, by (with_reducible repeat (first | apply Kd.R_alloc | apply Kd.R_drewN | apply Kd.R_drew)); exact Kd.R_mono (Kd.R_far (p := ⟨gb620, 1, none⟩) (Kd.R_far (p := ⟨gb620, 0, none⟩) (Kd.R_types HO627.out BK620.out (by decide)) (fun _ hk => hk.2) (.bool t624)) (fun _ hk => hk.2) (.slice Ao10 t625.length co10)) (fun _ hk => trivial), bw_ HB.out⟩
 ·rw [if_neg c2] at H
  have c2b0 : decide (a0 < 0) = false := decide_eq_false c2
  clear c2
  obtain ⟨y628, hy628⟩ : ∃ y_ : List Int, y_ = (([(Int.tmod (IntKind.u64.wrap (a0)) 4294967296) % 4294967296, (IntKind.u64.wrap (Int.tdiv (IntKind.u64.wrap (a0)) 4294967296)) % 4294967296] : List Int)) := ⟨_, rfl⟩
  replace H : ((pelorusref02_Make.f k (decide (a0 < 0)) y628).bind fun bt631 => (some (bt631.1, bt631.2))) = some (r1, r2) := by first | (rw [hy628]; with_reducible exact H) | (have H2_ := (Option.bind_some _ _).symm.trans H; rw [hy628]; with_reducible exact H2_) | (have H2_ := (Option.bind_some _ _).symm.trans H; with_reducible exact H2_) | with_reducible exact H | (rw [hy628]; exact H) | exact H
  have Ny628 := Aside0.mk hy628
  clear hy628
  replace H := Option.bind_eq_some_iff.mp H
  obtain ⟨⟨t631, t632⟩, A110, H⟩ := H
  (try dsimp only at H)
  have A11 := Aside0.mk A110
  clear A110
  simp only [Option.some.injEq, Prod.mk.injEq] at H
  obtain ⟨rfl, rfl⟩ := H
  go_enter Tryd.func55, Tryd.ntmps55
  go_wp2_with (first | ((with_reducible refine gate_dst (N := 2) rfl ?_); refine bx_ 2 #[.bool false, .slice none 0 0] 24 ?_; intro gb620 hg w12 hbox hb; have BK620 := Aside0.mk (hbox); have GW620 := ge_ hg HB; have GE620 := ge_ hg HB; replace HB := bq_ HB hb; clear hb hbox hg) | ((with_reducible refine gate_dst (N := 21) rfl ?_); refine Kd.R_lit (Kd.int .u32) _ 53 ?hg (N := 21) ?hd (xs := ([(Int.tmod (IntKind.u64.wrap (a0)) 4294967296) % 4294967296, (IntKind.u64.wrap (Int.tdiv (IntKind.u64.wrap (a0)) 4294967296)) % 4294967296] : List Int)) (inner := [.int .u32 ((Int.tmod (IntKind.u64.wrap (a0)) 4294967296) % 4294967296), .int .u32 ((IntKind.u64.wrap (Int.tdiv (IntKind.u64.wrap (a0)) 4294967296)) % 4294967296)]) (ok := fun _ => True) (okp := fun _ => True) ?hr ?hp (fun _ hk => hk) trivial (Below.refl _ _) (Nat.le_refl _) (by simp) ?_; (case hd => rfl); (case hg => rfl); (case hr => first | (go_simp; done) | (go_simp; rfl)); (case hp => exact (Reps.one (show Kd.M (Kd.int .u32) _ _ _ ((Int.tmod (IntKind.u64.wrap (a0)) 4294967296) % 4294967296) [.int .u32 ((Int.tmod (IntKind.u64.wrap (a0)) 4294967296) % 4294967296)] from rfl) (Reps.one (show Kd.M (Kd.int .u32) _ _ _ ((IntKind.u64.wrap (Int.tdiv (IntKind.u64.wrap (a0)) 4294967296)) % 4294967296) [.int .u32 ((IntKind.u64.wrap (Int.tdiv (IntKind.u64.wrap (a0)) 4294967296)) % 4294967296)] from rfl) (Reps.none _ _)))); intro v629 w13 ho14 hb hg_ hnew_; clear hg_ hnew_; (first | rw [← Ny628.out] at ho14 | (simp only [Int.reduceToNat] at ho14; rw [← Ny628.out] at ho14)); have HO630 := Aside0.mk (Kd.R_lower ho14 (below_size (bw_ HB.out))); replace BK620 := kq_ BK620 hb; replace HB := bq_ HB hb; clear hb ho14; obtain ⟨Ao15, co15, eo15⟩ := Kd.R_slice HO630.out; subst eo15) | ((with_reducible refine gate_callee (f := 60) rfl ?_); refine gl_ (some 22) Tryd.func60 #[.bool (decide (a0 < 0)), .slice Ao15 y628.length co15] ?_; (with_reducible refine (pelorusref02_Make.calls k (decide (a0 < 0)) _ _ y628 t631 t632 _ ?side1 ?side2 A11.out).mono ?_); (case side1 => exact kc_ (Kd.R_reads' HO630.out).2.2); (case side2 => exact (Kd.R_reads' HO630.out).2.1); rintro e w16 ⟨v633, rfl, ho0, hb⟩; refine ⟨_, rfl, ?_⟩; have HO634 := Aside0.mk (Kd.R_lower (Kd.R_new' ho0 (Kd.R_lt (kr_ HO630.out))) (below_size (bw_ HB.out))); replace HO630 := Aside0.mk (Kd.R_elder' (kr_ HO630.out) (Kd.R_base ho0) hb); replace BK620 := kq_ BK620 hb; replace HB := bq_ HB hb; (try clear hb); (try clear hb2); (try clear hk); (try clear hi); (try clear ho0); obtain ⟨hcz17_0, hcz17_1, hfz17_0, hfz17_1⟩ := c2_ BK620; obtain ⟨Ao18, co18, eo18⟩ := Kd.R_slice HO634.out; subst eo18))
  refine bodyPost_ret (results_cell_row rfl _ _ gb620 24 #[.bool t631, .slice Ao18 t632.length co18] (0, 0) _ rfl (by refine kb_ ?_; refine bp_ #[.bool t631, .slice none 0 0] 1 ?_; refine bp_ #[.bool false, .slice none 0 0] 0 ?_; exact BK620.out) Tryd.underlying24 rfl (by kernel_rfl)) rfl ?_
  exact ⟨_, rf_, by (with_reducible repeat (first | apply Kd.R_alloc | apply Kd.R_drewN | apply Kd.R_drew)); exact Kd.R_mono (Kd.R_far (p := ⟨gb620, 1, none⟩) (Kd.R_far (p := ⟨gb620, 0, none⟩) (Kd.R_types HO634.out BK620.out (by decide)) (fun _ hk => hk.2) (.bool t631)) (fun _ hk => hk.2) (.slice Ao18 t632.length co18)) (fun _ hk => trivial), bw_ HB.out⟩

/-! ### pelorusref05_Of: function 23 -/
set_option maxHeartbeats 8000000 in
set_option maxRecDepth 100000 in
theorem pelorusref05_Of.calls (k : Nat) (a0 : Int) (r1 : Int) (r2 : Bool) (r3 : Int) (r4 : Int) (w : World) (h : pelorusref05_Of.f k a0 = some (r1, r2, r3, r4)) :
  Calls Tryd.prog 23 #[.int .i64 a0] w fun e w' => e = .returned (.agg #[.int .i64 r1, .bool r2, .int .u64 r3, .int .i64 r4]) ∧ Below w.heap.size w w' := by
 have hu30 := Tryd.underlying30
 have HB := Aside0.mk (Below.refl w.heap.size w)
 have H : ((pelorusref02_From.f k a0).bind fun bt636 => ((pelorusref03_Make.f k bt636.1 bt636.2 0).bind fun bt640 => ((pelorusref05_Round.f k bt640.1 bt640.2.1 bt640.2.2 true).bind fun bt645 => (some (bt645.1, bt645.2.1, bt645.2.2.1, bt645.2.2.2))))) = some (r1, r2, r3, r4) := h
 clear h
 replace H := Option.bind_eq_some_iff.mp H
 obtain ⟨⟨t636, t637⟩, A20, H⟩ := H
 (try dsimp only at H)
 have A2 := Aside0.mk A20
 clear A20
 replace H := Option.bind_eq_some_iff.mp H
 obtain ⟨⟨t640, t641, t644⟩, A30, H⟩ := H
 (try dsimp only at H)
 have A3 := Aside0.mk A30
 clear A30
 replace H := Option.bind_eq_some_iff.mp H
 obtain ⟨⟨t645, t646, t647, t648⟩, A40, H⟩ := H
 (try dsimp only at H)
 have A4 := Aside0.mk A40
 clear A40
 simp only [Option.some.injEq, Prod.mk.injEq] at H
 obtain ⟨rfl, rfl, rfl, rfl⟩ := H
 go_enter Tryd.func23, Tryd.ntmps23
 go_wp2_with (first | ((with_reducible refine gate_dst (N := 2) rfl ?_); refine bx_ 2 #[.int .i64 0, .bool false, .int .u64 0, .int .i64 0] 30 ?_; intro gb635 hg w5 hbox hb; have BK635 := Aside0.mk (hbox); have GW635 := ge_ hg HB; have GE635 := ge_ hg HB; replace HB := bq_ HB hb; clear hb hbox hg) | ((with_reducible refine gate_callee (f := 55) rfl ?_); refine gl_ (some 4) Tryd.func55 #[.int .i64 a0] ?_; (with_reducible refine (pelorusref02_From.calls k a0 t636 t637 _ A2.out).mono ?_); rintro e w6 ⟨v638, rfl, ho0, hb⟩; refine ⟨_, rfl, ?_⟩; have HO639 := Aside0.mk (Kd.R_lower ho0 (below_size (bw_ HB.out))); replace BK635 := kq_ BK635 hb; replace HB := bq_ HB hb; (try clear hb); (try clear hb2); (try clear hk); (try clear hi); (try clear ho0); obtain ⟨Ao7, co7, eo7⟩ := Kd.R_slice HO639.out; subst eo7) | ((with_reducible refine gate_callee (f := 44) rfl ?_); refine gl_ (some 5) Tryd.func44 #[.agg #[.bool t636, .slice Ao7 t637.length co7], .int .i64 0] ?_; (with_reducible refine (pelorusref03_Make.calls k t636 _ _ t637 0 t640 t641 t644 _ ?side1 ?side2 A3.out).mono ?_); (case side1 => exact kc_ (Kd.R_reads' HO639.out).2.2); (case side2 => exact (Kd.R_reads' HO639.out).2.1); rintro e w8 ⟨v642, rfl, ho0, hb⟩; refine ⟨_, rfl, ?_⟩; have HO643 := Aside0.mk (Kd.R_lower (Kd.R_new' ho0 (Kd.R_lt (kr_ HO639.out))) (below_size (bw_ HB.out))); replace HO639 := Aside0.mk (Kd.R_elder' (kr_ HO639.out) (Kd.R_base ho0) hb); replace BK635 := kq_ BK635 hb; replace HB := bq_ HB hb; (try clear hb); (try clear hb2); (try clear hk); (try clear hi); (try clear ho0); obtain ⟨Ao9, co9, eo9⟩ := Kd.R_slice HO643.out; subst eo9) | ((with_reducible refine gate_callee (f := 13) rfl ?_); refine gl_ (some 6) Tryd.func13 #[.agg #[.bool t640, .slice Ao9 t641.length co9, .int .i64 t644], .bool true] ?_; (with_reducible refine (pelorusref05_Round.calls k t640 _ _ t641 t644 true t645 t646 t647 t648 _ ?side1 ?side2 A4.out).mono ?_); (case side1 => exact kc_ (Kd.R_reads' HO643.out).2.2); (case side2 => exact (Kd.R_reads' HO643.out).2.1); rintro e w10 ⟨rfl, hb⟩; refine ⟨_, rfl, ?_⟩; replace HO639 := Aside0.mk (Kd.R_below (kr_ HO639.out) hb); replace HO643 := Aside0.mk (Kd.R_below (kr_ HO643.out) hb); replace BK635 := kq_ BK635 hb; replace HB := bq_ HB hb; (try clear hb); (try clear hb2); (try clear hk); (try clear hi); obtain ⟨hcz11_0, hcz11_1, hcz11_2, hcz11_3, hfz11_0, hfz11_1, hfz11_2, hfz11_3⟩ := c4_ BK635))
 refine bodyPost_ret (results_cell_row rfl _ _ gb635 30 #[.int .i64 t645, .bool t646, .int .u64 t647, .int .i64 t648] (0, 0) _ rfl (by refine kb_ ?_; refine bp_ #[.int .i64 t645, .bool t646, .int .u64 t647, .int .i64 0] 3 ?_; refine bp_ #[.int .i64 t645, .bool t646, .int .u64 0, .int .i64 0] 2 ?_; refine bp_ #[.int .i64 t645, .bool false, .int .u64 0, .int .i64 0] 1 ?_; refine bp_ #[.int .i64 0, .bool false, .int .u64 0, .int .i64 0] 0 ?_; exact BK635.out) Tryd.underlying30 rfl (by kernel_rfl)) rfl ?_
 exact ⟨rf_, bw_ HB.out⟩

end Go.Proofs.YtkemnoejpbknhaaDoor.PA
