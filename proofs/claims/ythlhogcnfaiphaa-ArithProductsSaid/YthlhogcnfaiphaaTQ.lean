/- What the document's answers for layers 5 and 6 are (pelorusref05, pelorusref06): the exact sum, the exact product, rounded. -/
import Derived.Test.YthlhogcnfaiphaaPAx2
import Derived.Test.YthlhogcnfaiphaaTR
import Derived.Test.YthlhogcnfaiphaaTF
namespace Go.Proofs.Ythlhogcnfaiphaa.T
set_option linter.unusedVariables false
set_option linter.unusedSimpArgs false
open Go.RowKit Go.Proofs.YthlhogcnfaiphaaW.PrintWords Go.Proofs.YthlhogcnfaiphaaW.PrintMore Go.Proofs.Ythlhogcnfaiphaa.PA

theorem natAbs_lt_p {s : Int} {n : Nat} (h : bl s.natAbs ≤ n) : (s.natAbs : Int) < 2 ^ n := by
  have h1 := bl_lt (n := (s.natAbs : Int)) (by omega)
  have h2 := bl_nonneg (s.natAbs : Int)
  have h3 := p2_mono (show (bl (s.natAbs : Int)).toNat ≤ n by omega)
  omega
theorem bl_abs {s : Int} {n : Nat} (h0 : -(2 ^ n) < s) (h1 : s < 2 ^ n) : bl s.natAbs ≤ n := bl_le (by omega)
theorem mul_neg_p (x : Int) (n : Nat) : (-x) * 2 ^ n = -(x * 2 ^ n) := Int.neg_mul _ _
theorem sg_mul (n : Bool) (x y : Int) : sg n (x * y) = sg n x * y := by
  unfold sg; split
  · rw [Int.neg_mul]
  · rfl
/-- The sum of two exact numbers of one power of two. -/
theorem two_ev {p q : Dd} {s r f : Int} (hp : Rep p s f) (hq : Rep q r f) (n : Nat) (hn : n ≤ 50000) (hs : bl s.natAbs ≤ n) (hr : bl r.natAbs ≤ n) (f0 : -4000000 ≤ f) (f1 : f ≤ 4000000) :
    ∃ d, Rep d (s + r) f ∧ ∃ K, ∀ k, K ≤ k → pelorusref03_Two.f k p.1 p.2.1 p.2.2 q.1 q.2.1 q.2.2 = some d := by
  obtain ⟨a, ha, K1, h1⟩ := rep_make hp (by omega) (by omega) (by omega)
  obtain ⟨b, hb, K2, h2⟩ := rep_make hq (by omega) (by omega) (by omega)
  rcases ha with ⟨rfl, rfl⟩ | ⟨o, t, o0, o1, s0, ho, rfl⟩
  · refine ⟨b, by rw [Int.zero_add]; exact hb, K1 + K2, fun k hk => ?_⟩
    unfold pelorusref03_Two.f
    rw [h1 k (by omega), Option.bind_some, h2 k (by omega), Option.bind_some]
    rfl
  rcases hb with ⟨rfl, rfl⟩ | ⟨o', t', o0', o1', r0, ho', rfl⟩
  · refine ⟨(decide (s < 0), lim o, f + t), by rw [Int.add_zero]; exact .inr ⟨o, t, o0, o1, s0, ho, rfl⟩, K1 + K2, fun k hk => ?_⟩
    unfold pelorusref03_Two.f
    have := lim_nil_iff (n := o) (by omega)
    rw [h1 k (by omega), Option.bind_some, h2 k (by omega), Option.bind_some, if_neg (by simp only; omega)]
    rfl
  have bo := blp o0 t
  have bo' := blp o0' t'
  rw [← ho] at bo
  rw [← ho'] at bo'
  have po := bl_pos o0
  have po' := bl_pos o0'
  -- the sum of two of which the first one's power is not the greater one
  have key : ∀ (s r o o' : Int) (t t' : Nat), t ≤ t' → 0 < o → 0 < o' → s ≠ 0 → r ≠ 0 → (s.natAbs : Int) = o * 2 ^ t → (r.natAbs : Int) = o' * 2 ^ t' → bl s.natAbs ≤ n → bl r.natAbs ≤ n →
      ∃ d, Rep d (s + r) f ∧ ∃ K, ∀ k, K ≤ k → pelorusref03_Two.j0 k (decide (s < 0)) (lim o) (f + t) (decide (r < 0)) (lim o') (f + t') = some d := by
    intro s r o o' t t' htt o0 o0' s0 r0 ho ho' hs hr
    obtain ⟨j, rfl⟩ := Nat.le.dest htt
    have bo := blp o0 t
    have bo' := blp o0' (t + j)
    rw [← ho] at bo
    rw [← ho'] at bo'
    have po := bl_pos o0
    have po' := bl_pos o0'
    have bj := blp o0' j
    have lo' := len_lim (v := o') (by omega) (bl o').toNat (bl_lt (by omega))
    obtain ⟨K3, c⟩ := rshl_ev (lim o') j (U_lim (by omega)) (by omega)
    rw [val_lim (by omega), shlv_eq (by omega) (by omega), Int.toNat_natCast] at c
    have pj := p2_pos j
    have y0 : 0 < o' * 2 ^ j := Int.mul_pos o0' pj
    have ly := len_lim (v := o' * 2 ^ j) (by omega) (bl (o' * 2 ^ j)).toNat (bl_lt (by omega))
    obtain ⟨K4, e⟩ := make2_ev (decide (r < 0)) (lim (o' * 2 ^ j)) (U_lim (by omega)) (by omega)
    rw [val_lim (by omega)] at e
    have hx := bl_lt (n := o) (by omega)
    have hy := bl_lt (n := o' * 2 ^ j) (by omega)
    have m1 := p2_mono (show (bl o).toNat ≤ n by omega)
    have m2 := p2_mono (show (bl (o' * 2 ^ j)).toNat ≤ n by omega)
    obtain ⟨neg, ⟨K5, g⟩, gn⟩ := add2_ev (decide (s < 0)) (decide (r < 0)) (x := o) (y := o' * 2 ^ j) (by omega) (by omega) n (by omega) (by omega) (by omega)
    -- the sum at the lesser power
    have eS : (sg (decide (s < 0)) o + sg (decide (r < 0)) (o' * 2 ^ j)) * 2 ^ t = s + r := by
      rw [Int.add_mul, ← sg_mul, ← sg_mul, ← ho, Int.mul_assoc, ← p2_add, Nat.add_comm j t, ← ho', sg_of, sg_of]
    generalize hS : sg (decide (s < 0)) o + sg (decide (r < 0)) (o' * 2 ^ j) = S at *
    have pn := p2_succ n
    have aS : (S.natAbs : Int) < 2 ^ (n + 1) := by
      have a1 := sg_abs (decide (s < 0)) (v := o) (by omega)
      have a2 := sg_abs (decide (r < 0)) (v := o' * 2 ^ j) (by omega)
      omega
    have bS := bl_le aS
    have bS0 := bl_nonneg (S.natAbs : Int)
    have lS := len_lim (v := (S.natAbs : Int)) (by omega) (n + 1) aS
    obtain ⟨d, hd, K6, m⟩ := make3_ev neg (lim S.natAbs) (f + t) (U_lim (by omega)) (by omega) (by rw [val_lim (by omega)]; omega) (by omega) (by rw [val_lim (by omega)]; omega)
    rw [val_lim (by omega)] at hd
    have e2 : sg neg (S.natAbs : Int) = S := by
      by_cases z : S = 0
      · rw [z]; cases neg <;> rfl
      · rw [gn z]; exact sg_of S
    rw [e2] at hd
    refine ⟨d, by rw [← eS]; exact hd.scale, K3 + K4 + K5 + K6 + 1, fun k hk => ?_⟩
    obtain ⟨k, rfl⟩ : ∃ m, k = m + 1 := ⟨k - 1, by omega⟩
    simp only [pelorusref03_Two.j0]
    have w : wrap64 (f + ((t + j : Nat) : Int) - (f + t)) = (j : Int) := by rw [w64 (by omega) (by omega)]; omega
    rw [w, c k (by omega), Option.bind_some, e k (by omega), Option.bind_some]
    have z : decide (o' * 2 ^ j ≠ 0) = true := decide_eq_true (by omega)
    simp only [z, Bool.and_true]
    rw [g k (by omega), Option.bind_some, m k (by omega), Option.bind_some]
  have e1 : pelorusref03_Two.f = pelorusref03_Two.f := rfl
  have n1 := lim_nil_iff (n := o) (by omega)
  have n2 := lim_nil_iff (n := o') (by omega)
  by_cases hc : t ≤ t'
  · obtain ⟨d, hd, K3, h3⟩ := key s r o o' t t' hc o0 o0' s0 r0 ho ho' hs hr
    refine ⟨d, hd, K1 + K2 + K3, fun k hk => ?_⟩
    unfold pelorusref03_Two.f
    rw [h1 k (by omega), Option.bind_some, h2 k (by omega), Option.bind_some]
    simp only
    rw [if_neg (by omega), if_neg (by omega), if_neg (by omega), h3 k (by omega)]
  · obtain ⟨d, hd, K3, h3⟩ := key r s o' o t' t (by omega) o0' o0 r0 s0 ho' ho hr hs
    refine ⟨d, by rw [Int.add_comm]; exact hd, K1 + K2 + K3, fun k hk => ?_⟩
    unfold pelorusref03_Two.f
    rw [h1 k (by omega), Option.bind_some, h2 k (by omega), Option.bind_some]
    simp only
    rw [if_neg (by omega), if_neg (by omega), if_pos (by omega), h3 k (by omega)]
/-- The product of two exact numbers. -/
theorem mul3_ev {p q : Dd} {s r f g : Int} (hp : Rep p s f) (hq : Rep q r g) (hs : bl s.natAbs ≤ 40000) (hr : bl r.natAbs ≤ 40000) (f0 : -2000000 ≤ f) (f1 : f ≤ 2000000) (g0 : -2000000 ≤ g) (g1 : g ≤ 2000000) :
    ∃ d, Rep d (s * r) (f + g) ∧ ∃ K, ∀ k, K ≤ k → pelorusref03_Mul.f k p.1 p.2.1 p.2.2 q.1 q.2.1 q.2.2 = some d := by
  obtain ⟨a, ha, K1, h1⟩ := rep_make hp (by omega) (by omega) (by omega)
  obtain ⟨b, hb, K2, h2⟩ := rep_make hq (by omega) (by omega) (by omega)
  -- each as a sign, a value and a power
  have key : ∀ {a : Dd} {s f : Int}, Rep a s f → bl s.natAbs ≤ 40000 → -2000000 ≤ f → f ≤ 2000000 → ∃ (n : Bool) (o e : Int) (t : Nat), a = (n, lim o, e) ∧ 0 ≤ o ∧ bl o ≤ 40000 ∧ -2000000 ≤ e ∧ e ≤ 2040000 ∧ (s = 0 ∧ o = 0 ∨ e = f + t ∧ sg n o * 2 ^ t = s) := by
    intro a s f h hb f0 f1
    rcases h with ⟨rfl, rfl⟩ | ⟨o, t, o0, o1, s0, ho, rfl⟩
    · exact ⟨false, 0, 0, 0, by rw [show lim 0 = [] from limN_zero], by decide, by decide, by decide, by decide, .inl ⟨rfl, rfl⟩⟩
    · have bo := blp o0 t
      rw [← ho] at bo
      have := bl_nonneg o
      refine ⟨_, o, _, t, rfl, by omega, by omega, by omega, by omega, .inr ⟨rfl, ?_⟩⟩
      rw [← sg_mul, ← ho, sg_of]
  obtain ⟨n, o, e, t, rfl, o0, bo, e0, e1, hk⟩ := key ha hs f0 f1
  obtain ⟨n', o', e', t', rfl, o0', bo', e0', e1', hk'⟩ := key hb hr g0 g1
  have lo := len_lim (v := o) o0 40000 (Int.lt_of_lt_of_le (bl_lt o0) (p2_mono (by omega)))
  have lo' := len_lim (v := o') o0' 40000 (Int.lt_of_lt_of_le (bl_lt o0') (p2_mono (by omega)))
  obtain ⟨K3, h3⟩ := rmul_ev (lim o) (lim o') (U_lim o0) (U_lim o0') (by omega)
  rw [val_lim o0, val_lim o0'] at h3
  have oo0 := Int.mul_nonneg o0 o0'
  have oo1 : o * o' < 2 ^ 80000 := by
    have a1 := Int.lt_of_lt_of_le (bl_lt o0) (p2_mono (show (bl o).toNat ≤ 40000 by omega))
    have a2 := Int.lt_of_lt_of_le (bl_lt o0') (p2_mono (show (bl o').toNat ≤ 40000 by omega))
    have a3 := Int.mul_le_mul_of_nonneg_right (show o ≤ 2 ^ 40000 by omega) o0'
    have a4 := Int.mul_lt_mul_of_pos_left a2 (p2_pos 40000)
    rw [← p2_add] at a4
    exact Int.lt_of_le_of_lt a3 a4
  have loo := len_lim oo0 80000 oo1
  have boo := bl_le oo1
  have boo0 := bl_nonneg (o * o')
  obtain ⟨K4, h4⟩ := make2_ev (n != n') (lim (o * o')) (U_lim oo0) (by omega)
  rw [val_lim oo0] at h4
  obtain ⟨d, hd, K5, h5⟩ := make3_ev ((n != n') && decide (o * o' ≠ 0)) (lim (o * o')) (e + e') (U_lim oo0) (by omega) (by rw [val_lim oo0]; omega) (by omega) (by rw [val_lim oo0]; omega)
  rw [val_lim oo0] at hd
  refine ⟨d, ?_, K1 + K2 + K3 + K4 + K5, fun k hk => ?_⟩
  · have sgz : ∀ b : Bool, sg b 0 = 0 := fun b => by cases b <;> rfl
    have es : sg ((n != n') && decide (o * o' ≠ 0)) (o * o') = sg n o * sg n' o' := by
      by_cases z : o * o' = 0
      · rw [z, sgz]
        rcases Int.mul_eq_zero.1 z with z | z
        · rw [z, sgz, Int.zero_mul]
        · rw [z, sgz, Int.mul_zero]
      · rw [decide_eq_true z, Bool.and_true]
        unfold sg
        cases n <;> cases n' <;> simp [Int.neg_mul, Int.mul_neg]
    rw [es] at hd
    rcases hk with ⟨rfl, rfl⟩ | ⟨rfl, rfl⟩
    · rw [sgz, Int.zero_mul] at hd
      rw [Int.zero_mul]
      rcases hd with ⟨_, hd⟩ | ⟨_, _, _, _, hd, _⟩
      · exact .inl ⟨rfl, hd⟩
      · exact absurd rfl hd
    · rcases hk' with ⟨rfl, rfl⟩ | ⟨rfl, rfl⟩
      · rw [sgz, Int.mul_zero] at hd
        rw [Int.mul_zero]
        rcases hd with ⟨_, hd⟩ | ⟨_, _, _, _, hd, _⟩
        · exact .inl ⟨rfl, hd⟩
        · exact absurd rfl hd
      · have e2 : sg n o * 2 ^ t * (sg n' o' * 2 ^ t') = sg n o * sg n' o' * 2 ^ (t + t') := by rw [p2_add]; grind
        rw [e2]
        refine Rep.scale (t + t') ?_
        rw [show f + g + ((t + t' : Nat) : Int) = f + t + (g + t') by omega]
        exact hd
  · unfold pelorusref03_Mul.f
    rw [h1 k (by omega), Option.bind_some, h2 k (by omega), Option.bind_some]
    unfold pelorusref02_Two.f
    simp only
    rw [h3 k (by omega), Option.bind_some, h4 k (by omega), Option.bind_some, Option.bind_some]
    simp only
    rw [w64 (by omega) (by omega), h5 k (by omega), Option.bind_some]
end Go.Proofs.Ythlhogcnfaiphaa.T
