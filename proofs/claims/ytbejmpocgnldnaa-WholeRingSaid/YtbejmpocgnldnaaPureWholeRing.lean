/- Sums and products of three do not hang on the order; a product with a sum is the sum of products; a number and its opposite are nought: the plain law, over the law function's residual. No condition. -/
import Derived.Test.YtbejmpocgnldnaaTJ
import Derived.Test.YtbejmpocgnldnaaTK
import Derived.Test.YtbejmpocgnldnaaRW
namespace Go.Proofs.Ytbejmpocgnldnaa.Pure
set_option linter.unusedVariables false
set_option linter.unusedSimpArgs false
open Go.RowKit Go.Proofs.Ytbejmpocgnldnaa.PZ Go.Proofs.YtbejmpocgnldnaaW.PrintWords Go.Proofs.YtbejmpocgnldnaaW.PrintLast Go.Proofs.Ytbejmpocgnldnaa.T Go.Proofs.Ytbejmpocgnldnaa.Rf
theorem prod2 (b c : Bool) (l m : List Int) : prodS [⟨b, l⟩, ⟨c, m⟩] = sg b (val l) * sg c (val m) := by
  rw [prodS_cons, prodS_cons, show prodS [] = 1 from rfl, Int.mul_one]
theorem prod3 (b c d : Bool) (l m n : List Int) : prodS [⟨b, l⟩, ⟨c, m⟩, ⟨d, n⟩] = sg b (val l) * (sg c (val m) * sg d (val n)) := by
  rw [prodS_cons, prod2]
theorem w_Add_of {k : Nat} {b c : Bool} {l m : List Int} {r : Bool × List Int} (h : whole_Add.f k b l c m = some r) : w_Add k (b, l) (c, m) = some (r, ()) := by unfold w_Add; rw [h]; rfl
theorem w_Same_of {k : Nat} {b c : Bool} {l m : List Int} {r : Bool} (h : whole_Same.f k b l c m = some r) : w_Same k (b, l) (c, m) = some (r, ()) := by unfold w_Same; rw [h]; rfl
theorem w_Neg_of {k : Nat} {b : Bool} {l : List Int} {r : Bool × List Int} (h : whole_Neg.f k b l = some r) : w_Neg k (b, l) = some (r, ()) := by unfold w_Neg; rw [h]; rfl
theorem w_Sign_of {k : Nat} {b : Bool} {l : List Int} {r : Int} (h : whole_Sign.f k b l = some r) : w_Sign k (b, l) = some (r, ()) := by unfold w_Sign; rw [h]; rfl
theorem w_May_of {k : Nat} {b : Bool} {l : List Int} {r : Bool} (h : whole_May.f b l = some r) : w_May k (b, l) = some (r, ()) := by unfold w_May; rw [h]; rfl
theorem w_Mul2_of {k : Nat} {p q : Bool × List Int} {r : Bool × List Int} (h : whole_Mul.f k [⟨p.1, p.2⟩, ⟨q.1, q.2⟩] = some r) : w_Mul k [p, q] = some (r, ()) := by unfold w_Mul; simp only [List.map_cons, List.map_nil]; rw [h]; rfl
theorem w_Mul3_of {k : Nat} {p q s : Bool × List Int} {r : Bool × List Int} (h : whole_Mul.f k [⟨p.1, p.2⟩, ⟨q.1, q.2⟩, ⟨s.1, s.2⟩] = some r) : w_Mul k [p, q, s] = some (r, ()) := by unfold w_Mul; simp only [List.map_cons, List.map_nil]; rw [h]; rfl
theorem WholeRing (x y z : S24) (ox : ok24 x) (oy : ok24 y) (oz : ok24 z) : ∃ k, Rf.peloruslaw02_WholeRing k (x.f0, x.f1) (y.f0, y.f1) (z.f0, z.f1) = some (true, ()) := by
  have ux := U_of_wf ox.2.2.2
  have uy := U_of_wf oy.2.2.2
  have uz := U_of_wf oz.2.2.2
  obtain ⟨Ka, ha⟩ := awake_ev
  have hw : ∀ k, Ka ≤ k → w_awake k = some (true, ()) := fun k hk => by unfold w_awake; rw [ha k hk]
  by_cases hx : (x.f1.length : Int) > 15
  · refine ⟨Ka, ?_⟩
    unfold Rf.peloruslaw02_WholeRing
    rw [hw _ (by omega), Option.bind_some]
    simp only [Bool.not_true, cond_false, hx, decide_true, cond_true]
  by_cases hy : (y.f1.length : Int) > 15
  · refine ⟨Ka, ?_⟩
    unfold Rf.peloruslaw02_WholeRing
    rw [hw _ (by omega), Option.bind_some]
    simp only [Bool.not_true, cond_false, hx, hy, decide_true, decide_false, cond_true]
  by_cases hz : (z.f1.length : Int) > 15
  · refine ⟨Ka, ?_⟩
    unfold Rf.peloruslaw02_WholeRing
    rw [hw _ (by omega), Option.bind_some]
    simp only [Bool.not_true, cond_false, hx, hy, hz, decide_true, decide_false, cond_true]
  have Bx := B_of x.f0 ux (show x.f1.length ≤ 15 by omega)
  have By := B_of y.f0 uy (show y.f1.length ≤ 15 by omega)
  have Bz := B_of z.f0 uz (show z.f1.length ≤ 15 by omega)
  have addn : ∀ (s t : Int) (L : Nat), B s L → B t L → L ≤ 1000 → ∃ K, ∀ k, K ≤ k → whole_Add.f k (nw s).1 (nw s).2 (nw t).1 (nw t).2 = some (nw (s + t)) := by
    intro s t L hs ht hL
    have ls := B_len hs
    have lt := B_len ht
    obtain ⟨K, h⟩ := addw_ev (nw s).1 (nw t).1 (nw s).2 (nw t).2 (nw_U _) (nw_U _) (by omega) (by omega)
    rw [nw_sg, nw_sg] at h
    exact ⟨K, h⟩
  have samen : ∀ (s t : Int) (L : Nat), B s L → B t L → L ≤ 1000 → ∃ K, ∀ k, K ≤ k → whole_Same.f k (nw s).1 (nw s).2 (nw t).1 (nw t).2 = some (decide (s = t)) := by
    intro s t L hs ht hL
    have ls := B_len hs
    have lt := B_len ht
    obtain ⟨K, h⟩ := same_ev (nw s).1 (nw t).1 (nw s).2 (nw t).2 (nw_U _) (nw_U _) (by omega) (by omega)
    rw [nw_sg, nw_sg] at h
    exact ⟨K, h⟩
  obtain ⟨a, ea⟩ : ∃ a, a = sg x.f0 (val x.f1) := ⟨_, rfl⟩
  obtain ⟨b, eb⟩ : ∃ b, b = sg y.f0 (val y.f1) := ⟨_, rfl⟩
  obtain ⟨c, ec⟩ : ∃ c, c = sg z.f0 (val z.f1) := ⟨_, rfl⟩
  rw [← ea] at Bx
  rw [← eb] at By
  rw [← ec] at Bz
  have Bab := B_mono (B_add Bx By) (show _ ≤ 16 by omega)
  have Bcb := B_mono (B_add Bz By) (show _ ≤ 16 by omega)
  have Bbc := B_mono (B_add By Bz) (show _ ≤ 16 by omega)
  have Mab := B_mono (B_mul Bx By) (show _ ≤ 100 by omega)
  have Mba := B_mono (B_mul By Bx) (show _ ≤ 100 by omega)
  have Mca := B_mono (B_mul Bz Bx) (show _ ≤ 100 by omega)
  have Mp := B_mono (B_mul Bx Bbc) (show _ ≤ 100 by omega)
  have Mq := B_mono (B_add Mab Mca) (show _ ≤ 101 by omega)
  have M3 := B_mono (B_mul Bx (B_mul By Bz)) (show _ ≤ 100 by omega)
  have M3' := B_mono (B_mul Bz (B_mul By Bx)) (show _ ≤ 100 by omega)
  have S1 := B_mono (B_add Bab (B_mono Bz (show 15 ≤ 16 by omega))) (show _ ≤ 17 by omega)
  have S2 := B_mono (B_add (B_mono Bx (show 15 ≤ 16 by omega)) Bcb) (show _ ≤ 17 by omega)
  obtain ⟨K1, h1⟩ := addw_ev x.f0 y.f0 x.f1 y.f1 ux uy (by omega) (by omega)
  have q1 := B_len Bab
  obtain ⟨K2, h2⟩ := addw_ev (nw (a + b)).1 z.f0 (nw (a + b)).2 z.f1 (nw_U _) uz (by omega) (by omega)
  obtain ⟨K3, h3⟩ := addw_ev z.f0 y.f0 z.f1 y.f1 uz uy (by omega) (by omega)
  have q3 := B_len Bcb
  obtain ⟨K4, h4⟩ := addw_ev x.f0 (nw (c + b)).1 x.f1 (nw (c + b)).2 ux (nw_U _) (by omega) (by omega)
  obtain ⟨K5, h5⟩ := addw_ev y.f0 z.f0 y.f1 z.f1 uy uz (by omega) (by omega)
  have q5 := B_len Bbc
  obtain ⟨K6, h6⟩ := mulw_ev [⟨x.f0, x.f1⟩, ⟨(nw (b + c)).1, (nw (b + c)).2⟩] (by simp [ux, nw_U]) (by simp; omega) (by simp)
  obtain ⟨K7, h7⟩ := mulw_ev [⟨x.f0, x.f1⟩, ⟨y.f0, y.f1⟩] (by simp [ux, uy]) (by simp; omega) (by simp)
  obtain ⟨K8, h8⟩ := mulw_ev [⟨z.f0, z.f1⟩, ⟨x.f0, x.f1⟩] (by simp [uz, ux]) (by simp; omega) (by simp)
  rw [prod2, nw_sg] at h6
  rw [prod2] at h7 h8
  obtain ⟨K9, h9⟩ := addn (a * b) (c * a) 100 Mab Mca (by omega)
  obtain ⟨K10, h10⟩ := samen (a + b + c) (a + (c + b)) 17 S1 S2 (by omega)
  obtain ⟨K11, h11⟩ := samen (a * (b + c)) (a * b + c * a) 101 (B_mono Mp (by omega)) Mq (by omega)
  obtain ⟨K12, h12⟩ := neg_ev x.f0 x.f1 ux (by omega)
  have q12 := B_len (B_neg Bx)
  obtain ⟨K13, h13⟩ := addw_ev x.f0 (nw (-a)).1 x.f1 (nw (-a)).2 ux (nw_U _) (by omega) (by omega)
  obtain ⟨K14, h14⟩ := sign_ev (nw (a + -a)).1 (nw (a + -a)).2 (nw_U _) (by rw [Int.add_right_neg]; have := B_len (show B 0 1 from B_small (by decide)); omega)
  obtain ⟨K15, h15⟩ := mulw_ev [⟨x.f0, x.f1⟩, ⟨y.f0, y.f1⟩, ⟨z.f0, z.f1⟩] (by simp [ux, uy, uz]) (by simp; omega) (by simp)
  obtain ⟨K16, h16⟩ := mulw_ev [⟨y.f0, y.f1⟩, ⟨x.f0, x.f1⟩] (by simp [uy, ux]) (by simp; omega) (by simp)
  have q16 := B_len Mba
  obtain ⟨K17, h17⟩ := mulw_ev [⟨z.f0, z.f1⟩, ⟨(nw (b * a)).1, (nw (b * a)).2⟩] (by simp [uz, nw_U]) (by simp; omega) (by simp)
  rw [prod3] at h15
  rw [prod2] at h16
  rw [prod2, nw_sg] at h17
  obtain ⟨K18, h18⟩ := samen (a * (b * c)) (c * (b * a)) 100 M3 M3' (by omega)
  rw [← ea, ← eb] at h1 h7
  rw [nw_sg, ← ec] at h2
  rw [← ec, ← eb] at h3
  rw [nw_sg, ← ea] at h4 h13
  rw [← eb, ← ec] at h5
  rw [← ea] at h6 h12
  rw [← ec, ← ea] at h8
  rw [nw_sg, show a + -a = 0 by omega, sgn_zero] at h14
  rw [← ea, ← eb, ← ec] at h15
  rw [← eb, ← ea] at h16
  rw [← ec] at h17
  have e1 : decide (a + b + c = a + (c + b)) = true := decide_eq_true (by omega)
  have e2 : decide (a * (b + c) = a * b + c * a) = true := decide_eq_true (by rw [Int.mul_add, Int.mul_comm c a])
  have e3 : decide (a * (b * c) = c * (b * a)) = true := decide_eq_true (by rw [Int.mul_comm c (b * a), Int.mul_comm b a, Int.mul_assoc])
  rw [e1] at h10
  rw [e2] at h11
  rw [e3] at h18
  have q6 := B_len Mp
  clear ea eb ec
  obtain ⟨kk, hkk⟩ : ∃ kk, kk = Ka + K1 + K2 + K3 + K4 + K5 + K6 + K7 + K8 + K9 + K10 + K11 + K12 + K13 + K14 + K15 + K16 + K17 + K18 := ⟨_, rfl⟩
  have z0 : a + -a = 0 := by omega
  rw [z0] at h13
  have g1 := w_Add_of (h1 kk (by omega))
  have g2 := w_Add_of (h2 kk (by omega))
  have g3 := w_Add_of (h3 kk (by omega))
  have g4 := w_Add_of (h4 kk (by omega))
  have g5 := w_Add_of (h5 kk (by omega))
  have g6 := w_Mul2_of (p := (x.f0, x.f1)) (q := nw (b + c)) (h6 kk (by omega))
  have g7 := w_Mul2_of (p := (x.f0, x.f1)) (q := (y.f0, y.f1)) (h7 kk (by omega))
  have g8 := w_Mul2_of (p := (z.f0, z.f1)) (q := (x.f0, x.f1)) (h8 kk (by omega))
  have g9 := w_Add_of (h9 kk (by omega))
  have g10 := w_Same_of (h10 kk (by omega))
  have g11 := w_Same_of (h11 kk (by omega))
  have g12 := w_Neg_of (h12 kk (by omega))
  have g13 := w_Add_of (h13 kk (by omega))
  have g14 := w_Sign_of (h14 kk (by omega))
  have g15 := w_Mul3_of (p := (x.f0, x.f1)) (q := (y.f0, y.f1)) (s := (z.f0, z.f1)) (h15 kk (by omega))
  have g16 := w_Mul2_of (p := (y.f0, y.f1)) (q := (x.f0, x.f1)) (h16 kk (by omega))
  have g17 := w_Mul2_of (p := (z.f0, z.f1)) (q := nw (b * a)) (h17 kk (by omega))
  have g18 := w_Same_of (h18 kk (by omega))
  have g19 := w_May_of (k := kk) (may_eq (nw (a * (b + c))).1 (nw (a * (b + c))).2 (by omega))
  rw [mayw_nw] at g19
  clear h1 h2 h3 h4 h5 h6 h7 h8 h9 h10 h11 h12 h13 h14 h15 h16 h17 h18
  have g0 := hw kk (by omega)
  refine ⟨kk, ?_⟩
  unfold Rf.peloruslaw02_WholeRing
  simp only [g0, Option.bind_some, Bool.not_true, cond_false, hx, hy, hz, decide_false]
  simp only [g1, Option.bind_some]
  simp only [g2, Option.bind_some]
  simp only [g3, g4, g5, Option.bind_some]
  simp only [g6, g7, g8, Option.bind_some]
  simp only [g9, Option.bind_some]
  simp only [g10, Option.bind_some, cond_true]
  simp only [g11, Option.bind_some, cond_true]
  simp only [g12, Option.bind_some]
  simp only [g13, Option.bind_some]
  simp only [g14, Option.bind_some, beq_self_eq_true, cond_true]
  simp only [g15, g16, Option.bind_some]
  simp only [g17, Option.bind_some]
  simp only [g18, Option.bind_some, cond_true]
  simp only [g19, Option.bind_some]
end Go.Proofs.Ytbejmpocgnldnaa.Pure
