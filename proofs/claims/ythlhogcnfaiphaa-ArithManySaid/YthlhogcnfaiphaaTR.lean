/- What the document's answers for layers 2, 3, 5 and 6 are, as far as layer 6 needs them: exact numbers, as a sign, limbs and a power of two; the exact sum, the exact product, rounded. -/
import Derived.Test.YthlhogcnfaiphaaPAx2
import Derived.Test.YthlhogcnfaiphaaT9
import Derived.Test.YthlhogcnfaiphaaTS
import Derived.Test.YthlhogcnfaiphaaTC
namespace Go.Proofs.Ythlhogcnfaiphaa.T
set_option linter.unusedVariables false
set_option linter.unusedSimpArgs false
open Go.RowKit Go.Proofs.YthlhogcnfaiphaaW.PrintWords Go.Proofs.YthlhogcnfaiphaaW.PrintMore Go.Proofs.Ythlhogcnfaiphaa.PA

theorem make2_ev (neg : Bool) (l : List Int) (h : U l) (hb : l.length ≤ 1073741824) : ∃ K, ∀ k, K ≤ k → pelorusref02_Make.f k neg l = some (neg && decide (val l ≠ 0), lim (val l)) := by
  obtain ⟨K, hK⟩ := rtrim_ev l h hb
  refine ⟨K, fun k hk => ?_⟩
  unfold pelorusref02_Make.f
  rw [hK k hk, Option.bind_some]
  have hn := val_nonneg h
  cases neg
  · rfl
  · rw [if_pos rfl]
    congr 2
    rw [Bool.true_and, decide_eq_decide]
    have := lim_nil_iff hn
    omega
theorem even_eq {v : Int} (hv : 0 ≤ v) : pelorusref03_even.f (lim v) = some (decide (v ≠ 0 ∧ v % 2 = 0)) := by
  unfold pelorusref03_even.f
  by_cases h : v = 0
  · subst h
    have : lim 0 = [] := limN_zero
    rw [this]; rfl
  · have hl := lim_pos (n := v) (by omega)
    have hlen : 0 < ((lim v).length : Int) := by rw [hl]; simp
    rw [if_pos (by omega), if_pos (by omega), rd_eq, hl]
    simp only [Int.toNat_zero, List.getD_cons_zero]
    congr 1
    rw [Int.tmod_eq_emod_of_nonneg (by omega), Bool.eq_iff_iff, beq_iff_eq, decide_eq_true_iff]
    omega
theorem len_lim {v : Int} (hv : 0 ≤ v) (n : Nat) (h : v < 2 ^ n) : (lim v).length ≤ n / 32 + 1 := by
  refine lim_len hv _ ?_
  rw [p2_limb]
  exact Int.lt_of_lt_of_le h (p2_mono (by omega))
theorem bl_half {v : Int} (hv : 0 < v) (he : v % 2 = 0) : bl v = bl (v / 2) + 1 := by
  have := blp (v := v / 2) (by omega) 1
  rw [Int.pow_one, show v / 2 * 2 = v by omega] at this
  exact this
/-- Halved as often as that goes. -/
theorem m3_loop (neg : Bool) (n : Nat) : ∀ (v e i : Int), 0 < v → bl v = n → 0 ≤ i → i + n ≤ 4000000 → n ≤ 100000 → -4194304 ≤ e → e + n ≤ 4194304 →
    ∃ (o : Int) (t : Nat), 0 < o ∧ o % 2 = 1 ∧ v = o * 2 ^ t ∧ ∃ K, ∀ k, K ≤ k → pelorusref03_Make.l0 k e i neg (lim v) = some (neg, lim o, e + t) := by
  induction n with
  | zero => intro v e i hv hb; have := bl_pos hv; omega
  | succ n ih =>
    intro v e i hv hb i0 i1 hn e0 e1
    have ev := even_eq (v := v) (by omega)
    by_cases h2 : v % 2 = 0
    · have hb2 := bl_half hv h2
      obtain ⟨o, t, o0, o1, ho, hE⟩ := ih (v / 2) (e + 1) (i + 1) (by omega) (by omega) (by omega) (by omega) (by omega) (by omega) (by omega)
      refine ⟨o, t + 1, o0, o1, ?_, ?_⟩
      · rw [p2_succ, ← Int.mul_assoc, Int.mul_comm o 2, Int.mul_assoc, ← ho]; omega
      · have hl := len_lim (v := v) (by omega) (bl v).toNat (bl_lt (by omega))
        have s := rshr_ev (lim v) 1 (U_lim (by omega)) (by omega)
        rw [val_lim (by omega)] at s
        have sv : shrv v 1 = v / 2 := by unfold shrv; rw [if_neg (by decide)]; rfl
        rw [sv] at s
        obtain ⟨K1, s⟩ := s
        obtain ⟨K2, hE⟩ := hE
        refine ⟨K1 + K2 + 1, fun k hk => ?_⟩
        obtain ⟨k, rfl⟩ : ∃ m, k = m + 1 := ⟨k - 1, by omega⟩
        simp only [pelorusref03_Make.l0]
        rw [if_pos (by omega), ev, Option.bind_some, decide_eq_true ⟨by omega, h2⟩, if_pos rfl, s k (by omega), Option.bind_some, w64 (by omega) (by omega), w64 (by omega) (by omega), hE k (by omega)]
        congr 3
        omega
    · refine ⟨v, 0, hv, by omega, by simp, 1, fun k hk => ?_⟩
      obtain ⟨k, rfl⟩ : ∃ m, k = m + 1 := ⟨k - 1, by omega⟩
      simp only [pelorusref03_Make.l0]
      rw [if_pos (by omega), ev, Option.bind_some, decide_eq_false (fun h => h2 h.2), if_neg (by decide), if_neg (by omega)]
      congr 3
      omega
abbrev Dd := Bool × List Int × Int
/-- Which number s * 2^f is, its limbs odd. -/
def Rep (d : Dd) (s f : Int) : Prop := (s = 0 ∧ d = (false, [], 0)) ∨ ∃ (o : Int) (t : Nat), 0 < o ∧ o % 2 = 1 ∧ s ≠ 0 ∧ (s.natAbs : Int) = o * 2 ^ t ∧ d = (decide (s < 0), lim o, f + t)
theorem Rep.scale {d : Dd} {s f : Int} (j : Nat) (h : Rep d s (f + j)) : Rep d (s * 2 ^ j) f := by
  have hp := p2_pos j
  rcases h with ⟨rfl, h⟩ | ⟨o, t, o0, o1, s0, hs, hd⟩
  · exact .inl ⟨by omega, h⟩
  · refine .inr ⟨o, t + j, o0, o1, Int.mul_ne_zero s0 (by omega), ?_, ?_⟩
    · rw [Int.natAbs_mul, Int.natCast_mul, show ((((2 : Int) ^ j).natAbs : Nat) : Int) = 2 ^ j from Int.natAbs_of_nonneg (by omega), hs, p2_add, Int.mul_assoc]
    · rw [hd]
      have : decide (s * 2 ^ j < 0) = decide (s < 0) := by
        by_cases h2 : s < 0
        · rw [decide_eq_true h2, decide_eq_true (Int.mul_neg_of_neg_of_pos h2 hp)]
        · rw [decide_eq_false h2, decide_eq_false]
          have := Int.mul_pos (show 0 < s by omega) hp
          omega
      rw [this]
      congr 2
      omega
theorem sg_abs (neg : Bool) {v : Int} (hv : 0 ≤ v) : ((sg neg v).natAbs : Int) = v := by
  unfold sg
  cases neg
  · simp only [Bool.false_eq_true, if_false]; exact Int.natAbs_of_nonneg hv
  · simp only [if_true, Int.natAbs_neg]; exact Int.natAbs_of_nonneg hv
theorem sg_lt (neg : Bool) {v : Int} (hv : 0 < v) : decide (sg neg v < 0) = neg := by
  unfold sg
  cases neg
  · simp only [Bool.false_eq_true, if_false]; exact decide_eq_false (by omega)
  · simp only [if_true]; exact decide_eq_true (by omega)
theorem sg_ne (neg : Bool) {v : Int} (hv : 0 < v) : sg neg v ≠ 0 := by
  unfold sg
  cases neg
  · simp only [Bool.false_eq_true, if_false]; omega
  · simp only [if_true]; omega
theorem sg_of (s : Int) : sg (decide (s < 0)) s.natAbs = s := by
  unfold sg
  by_cases h : s < 0
  · rw [decide_eq_true h, if_pos rfl]; omega
  · rw [decide_eq_false h, if_neg (by decide)]; omega
theorem make3_ev (neg : Bool) (l : List Int) (e : Int) (h : U l) (hb : l.length ≤ 1073741824) (hl : bl (val l) ≤ 100000) (e0 : -4194304 ≤ e) (e1 : e + bl (val l) ≤ 4194304) :
    ∃ d, Rep d (sg neg (val l)) e ∧ ∃ K, ∀ k, K ≤ k → pelorusref03_Make.f k neg l e = some d := by
  have hn := val_nonneg h
  obtain ⟨K, hK⟩ := make2_ev neg l h hb
  by_cases hz : val l = 0
  · refine ⟨(false, [], 0), .inl ⟨by rw [hz]; cases neg <;> rfl, rfl⟩, K + 1, fun k hk => ?_⟩
    obtain ⟨k, rfl⟩ : ∃ m, k = m + 1 := ⟨k - 1, by omega⟩
    unfold pelorusref03_Make.f
    rw [hK (k + 1) (by omega), Option.bind_some, hz, show lim 0 = [] from limN_zero]
    rfl
  · have bp := bl_pos (n := val l) (by omega)
    obtain ⟨o, t, o0, o1, ho, K2, hE⟩ := m3_loop neg (bl (val l)).toNat (val l) e 0 (by omega) (by omega) (by decide) (by omega) (by omega) e0 (by omega)
    refine ⟨(neg, lim o, e + t), .inr ⟨o, t, o0, o1, sg_ne neg (by omega), by rw [sg_abs neg hn]; exact ho, by rw [sg_lt neg (by omega)]⟩, K + K2 + 1, fun k hk => ?_⟩
    obtain ⟨k, rfl⟩ : ∃ m, k = m + 1 := ⟨k - 1, by omega⟩
    unfold pelorusref03_Make.f
    rw [hK (k + 1) (by omega), Option.bind_some]
    simp only
    have := lim_nil_iff hn
    rw [if_neg (by omega), if_neg (by omega), decide_eq_false (show ¬ e > 4194304 by omega), decide_eq_true hz, Bool.and_true]
    simp only [pelorusref03_Make.j0, Bool.false_eq_true, if_false]
    exact hE k (by omega)
/-- Made once more it is the same number. -/
theorem rep_make {d : Dd} {s f : Int} (h : Rep d s f) (hb : bl s.natAbs ≤ 100000) (f0 : -4194304 ≤ f) (f1 : f + bl s.natAbs ≤ 4194304) : ∃ d', Rep d' s f ∧ ∃ K, ∀ k, K ≤ k → pelorusref03_Make.f k d.1 d.2.1 d.2.2 = some d' := by
  rcases h with ⟨rfl, rfl⟩ | ⟨o, t, o0, o1, s0, hs, rfl⟩
  · obtain ⟨d', h1, h2⟩ := make3_ev false [] 0 U_nil (by simp) (by decide) (by decide) (by decide)
    refine ⟨d', ?_, h2⟩
    rcases h1 with ⟨_, h1⟩ | ⟨_, _, _, _, h1, _⟩
    · exact .inl ⟨rfl, h1⟩
    · exact absurd rfl h1
  · have bs := blp o0 t
    rw [← hs] at bs
    have bo := bl_nonneg o
    have hl := len_lim (v := o) (by omega) (bl o).toNat (bl_lt (by omega))
    have v := val_lim (n := o) (by omega)
    obtain ⟨d', h1, h2⟩ := make3_ev (decide (s < 0)) (lim o) (f + t) (U_lim (by omega)) (by omega) (by rw [v]; omega) (by omega) (by rw [v]; omega)
    rw [v] at h1
    refine ⟨d', ?_, h2⟩
    have h3 := h1.scale
    have e : sg (decide (s < 0)) o * 2 ^ t = s := by
      conv => rhs; rw [← sg_of s, hs]
      unfold sg
      split
      · rw [Int.neg_mul]
      · rfl
    rwa [e] at h3
/-- The sum of two with signs. -/
theorem add2_ev (na nb : Bool) {x y : Int} (x0 : 0 ≤ x) (y0 : 0 ≤ y) (n : Nat) (hn : n ≤ 200000) (hx : x < 2 ^ n) (hy : y < 2 ^ n) :
    ∃ neg, (∃ K, ∀ k, K ≤ k → pelorusref02_Add.f k na (lim x) nb (lim y) = some (neg, lim (sg na x + sg nb y).natAbs)) ∧ (sg na x + sg nb y ≠ 0 → neg = decide (sg na x + sg nb y < 0)) := by
  have lx := len_lim x0 n hx
  have ly := len_lim y0 n hy
  have vx := val_lim x0
  have vy := val_lim y0
  have ux := U_lim x0
  have uy := U_lim y0
  by_cases h : na = nb
  · subst h
    obtain ⟨K1, a⟩ := radd_ev (lim x) (lim y) ux uy (by omega) (by omega)
    rw [vx, vy] at a
    have hp := p2_succ n
    have l2 := len_lim (v := x + y) (by omega) (n + 1) (by omega)
    obtain ⟨K2, b⟩ := make2_ev na (lim (x + y)) (U_lim (by omega)) (by omega)
    rw [val_lim (n := x + y) (by omega)] at b
    have e : sg na x + sg na y = sg na (x + y) := by unfold sg; split <;> omega
    rw [e]
    refine ⟨na && decide (x + y ≠ 0), ⟨K1 + K2, fun k hk => ?_⟩, ?_⟩
    · unfold pelorusref02_Add.f
      rw [if_pos (by simp), a k (by omega), Option.bind_some, b k (by omega), Option.bind_some, sg_abs na (by omega)]
    · intro h
      by_cases z : x + y = 0
      · rw [z] at h; exact absurd (by unfold sg; split <;> rfl) h
      · rw [sg_lt na (by omega), decide_eq_true z, Bool.and_true]
  · have hq : ¬ (na == nb) = true := by simpa using h
    have hnb : nb = !na := by cases na <;> cases nb <;> simp_all
    obtain ⟨K1, a⟩ := rsub_ev (lim x) (lim y) ux uy (by omega) (by omega)
    rw [vx, vy] at a
    by_cases hlt : x < y
    · obtain ⟨K2, b⟩ := rsub_ev (lim y) (lim x) uy ux (by omega) (by omega)
      rw [vx, vy, if_neg (by omega)] at b
      rw [if_pos hlt] at a
      have l2 := len_lim (v := y - x) (by omega) n (by omega)
      obtain ⟨K3, c⟩ := make2_ev nb (lim (y - x)) (U_lim (by omega)) (by omega)
      rw [val_lim (n := y - x) (by omega)] at c
      have e : sg na x + sg nb y = sg nb (y - x) := by subst hnb; unfold sg; cases na <;> simp <;> omega
      rw [e]
      refine ⟨nb && decide (y - x ≠ 0), ⟨K1 + K2 + K3, fun k hk => ?_⟩, ?_⟩
      · unfold pelorusref02_Add.f
        rw [if_neg hq, a k (by omega), Option.bind_some, if_neg (by decide), b k (by omega), Option.bind_some]
        simp only
        rw [c k (by omega), Option.bind_some, sg_abs nb (by omega)]
      · intro _
        rw [sg_lt nb (by omega), decide_eq_true (by omega), Bool.and_true]
    · rw [if_neg hlt] at a
      have l2 := len_lim (v := x - y) (by omega) n (by omega)
      obtain ⟨K3, c⟩ := make2_ev na (lim (x - y)) (U_lim (by omega)) (by omega)
      rw [val_lim (n := x - y) (by omega)] at c
      have e : sg na x + sg nb y = sg na (x - y) := by subst hnb; unfold sg; cases na <;> simp <;> omega
      rw [e]
      refine ⟨na && decide (x - y ≠ 0), ⟨K1 + K3, fun k hk => ?_⟩, ?_⟩
      · unfold pelorusref02_Add.f
        rw [if_neg hq, a k (by omega), Option.bind_some, if_pos rfl]
        simp only
        rw [c k (by omega), Option.bind_some, sg_abs na (by omega)]
      · intro h
        by_cases z : x - y = 0
        · rw [z] at h; exact absurd (by unfold sg; split <;> rfl) h
        · rw [sg_lt na (by omega), decide_eq_true z, Bool.and_true]

theorem natAbs_lt_p {s : Int} {n : Nat} (h : bl s.natAbs ≤ n) : (s.natAbs : Int) < 2 ^ n := by
  have h1 := bl_lt (n := (s.natAbs : Int)) (by omega)
  have h2 := bl_nonneg (s.natAbs : Int)
  have h3 := p2_mono (show (bl (s.natAbs : Int)).toNat ≤ n by omega)
  omega
theorem bl_abs {s : Int} {n : Nat} (h0 : -(2 ^ n) < s) (h1 : s < 2 ^ n) : bl s.natAbs ≤ n := bl_le (by omega)
theorem mul_neg_p (x : Int) (n : Nat) : (-x) * 2 ^ n = -(x * 2 ^ n) := Int.neg_mul _ _
theorem sg_mul (n : Bool) (x y : Int) : sg n (x * y) = sg n x * y := by
  unfold sg; split
  · rw [Int.neg_mul]
  · rfl
/-- The sum of two exact numbers of one power of two. -/
theorem two_ev {p q : Dd} {s r f : Int} (hp : Rep p s f) (hq : Rep q r f) (n : Nat) (hn : n ≤ 50000) (hs : bl s.natAbs ≤ n) (hr : bl r.natAbs ≤ n) (f0 : -4000000 ≤ f) (f1 : f ≤ 4000000) :
    ∃ d, Rep d (s + r) f ∧ ∃ K, ∀ k, K ≤ k → pelorusref03_Two.f k p.1 p.2.1 p.2.2 q.1 q.2.1 q.2.2 = some d := by
  obtain ⟨a, ha, K1, h1⟩ := rep_make hp (by omega) (by omega) (by omega)
  obtain ⟨b, hb, K2, h2⟩ := rep_make hq (by omega) (by omega) (by omega)
  rcases ha with ⟨rfl, rfl⟩ | ⟨o, t, o0, o1, s0, ho, rfl⟩
  · refine ⟨b, by rw [Int.zero_add]; exact hb, K1 + K2, fun k hk => ?_⟩
    unfold pelorusref03_Two.f
    rw [h1 k (by omega), Option.bind_some, h2 k (by omega), Option.bind_some]
    rfl
  rcases hb with ⟨rfl, rfl⟩ | ⟨o', t', o0', o1', r0, ho', rfl⟩
  · refine ⟨(decide (s < 0), lim o, f + t), by rw [Int.add_zero]; exact .inr ⟨o, t, o0, o1, s0, ho, rfl⟩, K1 + K2, fun k hk => ?_⟩
    unfold pelorusref03_Two.f
    have := lim_nil_iff (n := o) (by omega)
    rw [h1 k (by omega), Option.bind_some, h2 k (by omega), Option.bind_some, if_neg (by simp only; omega)]
    rfl
  have bo := blp o0 t
  have bo' := blp o0' t'
  rw [← ho] at bo
  rw [← ho'] at bo'
  have po := bl_pos o0
  have po' := bl_pos o0'
  -- the sum of two of which the first one's power is not the greater one
  have key : ∀ (s r o o' : Int) (t t' : Nat), t ≤ t' → 0 < o → 0 < o' → s ≠ 0 → r ≠ 0 → (s.natAbs : Int) = o * 2 ^ t → (r.natAbs : Int) = o' * 2 ^ t' → bl s.natAbs ≤ n → bl r.natAbs ≤ n →
      ∃ d, Rep d (s + r) f ∧ ∃ K, ∀ k, K ≤ k → pelorusref03_Two.j0 k (decide (s < 0)) (lim o) (f + t) (decide (r < 0)) (lim o') (f + t') = some d := by
    intro s r o o' t t' htt o0 o0' s0 r0 ho ho' hs hr
    obtain ⟨j, rfl⟩ := Nat.le.dest htt
    have bo := blp o0 t
    have bo' := blp o0' (t + j)
    rw [← ho] at bo
    rw [← ho'] at bo'
    have po := bl_pos o0
    have po' := bl_pos o0'
    have bj := blp o0' j
    have lo' := len_lim (v := o') (by omega) (bl o').toNat (bl_lt (by omega))
    obtain ⟨K3, c⟩ := rshl_ev (lim o') j (U_lim (by omega)) (by omega)
    rw [val_lim (by omega), shlv_eq (by omega) (by omega), Int.toNat_natCast] at c
    have pj := p2_pos j
    have y0 : 0 < o' * 2 ^ j := Int.mul_pos o0' pj
    have ly := len_lim (v := o' * 2 ^ j) (by omega) (bl (o' * 2 ^ j)).toNat (bl_lt (by omega))
    obtain ⟨K4, e⟩ := make2_ev (decide (r < 0)) (lim (o' * 2 ^ j)) (U_lim (by omega)) (by omega)
    rw [val_lim (by omega)] at e
    have hx := bl_lt (n := o) (by omega)
    have hy := bl_lt (n := o' * 2 ^ j) (by omega)
    have m1 := p2_mono (show (bl o).toNat ≤ n by omega)
    have m2 := p2_mono (show (bl (o' * 2 ^ j)).toNat ≤ n by omega)
    obtain ⟨neg, ⟨K5, g⟩, gn⟩ := add2_ev (decide (s < 0)) (decide (r < 0)) (x := o) (y := o' * 2 ^ j) (by omega) (by omega) n (by omega) (by omega) (by omega)
    -- the sum at the lesser power
    have eS : (sg (decide (s < 0)) o + sg (decide (r < 0)) (o' * 2 ^ j)) * 2 ^ t = s + r := by
      rw [Int.add_mul, ← sg_mul, ← sg_mul, ← ho, Int.mul_assoc, ← p2_add, Nat.add_comm j t, ← ho', sg_of, sg_of]
    generalize hS : sg (decide (s < 0)) o + sg (decide (r < 0)) (o' * 2 ^ j) = S at *
    have pn := p2_succ n
    have aS : (S.natAbs : Int) < 2 ^ (n + 1) := by
      have a1 := sg_abs (decide (s < 0)) (v := o) (by omega)
      have a2 := sg_abs (decide (r < 0)) (v := o' * 2 ^ j) (by omega)
      omega
    have bS := bl_le aS
    have bS0 := bl_nonneg (S.natAbs : Int)
    have lS := len_lim (v := (S.natAbs : Int)) (by omega) (n + 1) aS
    obtain ⟨d, hd, K6, m⟩ := make3_ev neg (lim S.natAbs) (f + t) (U_lim (by omega)) (by omega) (by rw [val_lim (by omega)]; omega) (by omega) (by rw [val_lim (by omega)]; omega)
    rw [val_lim (by omega)] at hd
    have e2 : sg neg (S.natAbs : Int) = S := by
      by_cases z : S = 0
      · rw [z]; cases neg <;> rfl
      · rw [gn z]; exact sg_of S
    rw [e2] at hd
    refine ⟨d, by rw [← eS]; exact hd.scale, K3 + K4 + K5 + K6 + 1, fun k hk => ?_⟩
    obtain ⟨k, rfl⟩ : ∃ m, k = m + 1 := ⟨k - 1, by omega⟩
    simp only [pelorusref03_Two.j0]
    have w : wrap64 (f + ((t + j : Nat) : Int) - (f + t)) = (j : Int) := by rw [w64 (by omega) (by omega)]; omega
    rw [w, c k (by omega), Option.bind_some, e k (by omega), Option.bind_some]
    have z : decide (o' * 2 ^ j ≠ 0) = true := decide_eq_true (by omega)
    simp only [z, Bool.and_true]
    rw [g k (by omega), Option.bind_some, m k (by omega), Option.bind_some]
  have e1 : pelorusref03_Two.f = pelorusref03_Two.f := rfl
  have n1 := lim_nil_iff (n := o) (by omega)
  have n2 := lim_nil_iff (n := o') (by omega)
  by_cases hc : t ≤ t'
  · obtain ⟨d, hd, K3, h3⟩ := key s r o o' t t' hc o0 o0' s0 r0 ho ho' hs hr
    refine ⟨d, hd, K1 + K2 + K3, fun k hk => ?_⟩
    unfold pelorusref03_Two.f
    rw [h1 k (by omega), Option.bind_some, h2 k (by omega), Option.bind_some]
    simp only
    rw [if_neg (by omega), if_neg (by omega), if_neg (by omega), h3 k (by omega)]
  · obtain ⟨d, hd, K3, h3⟩ := key r s o' o t' t (by omega) o0' o0 r0 s0 ho' ho hr hs
    refine ⟨d, by rw [Int.add_comm]; exact hd, K1 + K2 + K3, fun k hk => ?_⟩
    unfold pelorusref03_Two.f
    rw [h1 k (by omega), Option.bind_some, h2 k (by omega), Option.bind_some]
    simp only
    rw [if_neg (by omega), if_neg (by omega), if_pos (by omega), h3 k (by omega)]
theorem may5_eq (a : Int) (b : Bool) (c d : Int) (h1 : c < 18446744073709551616) : pelorusref05_May.f a b c d = some (decide (mayP (a, b, c, d))) := by
  rw [← may_eq a b c d h1]
  unfold pelorusref05_May.f num_May.f
  by_cases h0 : a = 0
  · subst h0
    rw [if_neg (by decide), if_neg (by decide), if_pos rfl, if_pos rfl]
    cases b
    · by_cases hc : c = 0
      · rw [if_neg (by decide), if_pos hc, hc]; rfl
      · rw [if_neg (by decide), if_neg hc, show (c == 0) = false by simpa using hc]; rfl
    · rfl
  · rw [if_neg h0]
    by_cases h2 : a = 1
    · subst h2; rfl
    · by_cases h3 : a = 2
      · subst h3; rfl
      · simp only [h0, h2, h3, if_false]
theorem fair6_eq (a : Int) (b : Bool) (c d : Int) (h1 : c < 18446744073709551616) : pelorusref06_Fair.f a b c d = some (fairv (a, b, c, d)) := by
  rw [← afair_eq a b c d h1]
  unfold pelorusref06_Fair.f arith_fair.f
  rw [may5_eq a b c d h1, may_eq a b c d h1]
theorem fair5_eq (a : Int) (b : Bool) (c d : Int) (h1 : c < 18446744073709551616) : pelorusref05_fair.f a b c d = some (fairv (a, b, c, d)) := by
  rw [← afair_eq a b c d h1]
  unfold pelorusref05_fair.f arith_fair.f
  rw [may5_eq a b c d h1, may_eq a b c d h1]
theorem neg5_eq (a : Int) (b : Bool) (c d : Int) (h1 : c < 18446744073709551616) : pelorusref05_Neg.f a b c d = some (ngv (fairv (a, b, c, d))) := by
  unfold pelorusref05_Neg.f
  rw [fair5_eq a b c d h1, Option.bind_some]
  have h := fairv_may (a, b, c, d)
  generalize fairv (a, b, c, d) = n at h
  obtain ⟨n1, n2, n3, n4⟩ := n
  unfold ngv
  rcases h with ⟨h1, h2, h3, h4⟩ | ⟨h1, h2⟩ | ⟨h1, h2⟩ <;> simp only at h1
  · simp only at h2 h3 h4; subst h1 h2 h3 h4; rfl
  · subst h1; rfl
  · subst h1; rfl
theorem fin5_eq (neg : Bool) (m e : Int) (away : Bool) : pelorusref05_finite.f neg m e away = some (bnd neg m e away) := by
  unfold pelorusref05_finite.f bnd
  by_cases h : e > 1048576
  · rw [if_pos h, if_pos h]; cases away <;> rfl
  · rw [if_neg h, if_neg h]
    by_cases h2 : e < -1048576
    · rw [if_pos h2, if_pos h2]; cases away <;> rfl
    · rw [if_neg h2, if_neg h2]
theorem word_step (k : Nat) (l : List Int) (x : Int) (i : Nat) (h : i < l.length) (hb : l.length ≤ 2) (x0 : 0 ≤ x) (x1 : x < 4294967296) (hu : U l) :
    pelorusref05_word.l0 (k + 1) l x (i : Int) = pelorusref05_word.l0 k l (x * 4294967296 + l.getD i 0) ((i : Int) - 1) := by
  have hg := U_getD hu i
  simp only [pelorusref05_word.l0, rd_eq, Int.toNat_natCast]
  rw [if_pos (by omega), if_pos (by omega), if_pos (by omega), u64w (x := x * 4294967296) (by omega) (by omega), u64w (x := l.getD i 0) (by omega) (by omega), u64w (by omega) (by omega), w64 (by omega) (by omega)]
theorem word_end (k : Nat) (l : List Int) (x : Int) : pelorusref05_word.l0 (k + 1) l x (-1) = some x := by
  simp only [pelorusref05_word.l0]
  rw [if_neg (by decide)]
theorem word_ev {v : Int} (h0 : 0 ≤ v) (h1 : v < 18446744073709551616) : ∃ K, ∀ k, K ≤ k → pelorusref05_word.f k (lim v) = some v := by
  have hl := lim_len h0 2 (by rw [show pw 2 = 18446744073709551616 by decide]; exact h1)
  have u := U_lim h0
  have hv := val_lim h0
  generalize lim v = l at *
  refine ⟨3, fun k hk => ?_⟩
  obtain ⟨k, rfl⟩ : ∃ m, k = m + 3 := ⟨k - 3, by omega⟩
  unfold pelorusref05_word.f
  rw [w64 (by omega) (by omega)]
  match l, hl, u, hv with
  | [], _, _, hv =>
    have : (0 : Int) = v := hv
    subst this
    exact word_end _ _ _
  | [a], hl, u, hv =>
    have ha := u a (by simp)
    have e : v = a := by rw [← hv]; simp
    have s := word_step (k + 2) [a] 0 0 (by simp) hl (by decide) (by decide) u
    refine s.trans ?_
    refine (word_end _ _ _).trans ?_
    rw [e]
    simp
  | [a, b], hl, u, hv =>
    have ha := u a (by simp)
    have hb := u b (by simp)
    have e : v = a + 4294967296 * b := by rw [← hv]; simp
    have s := word_step (k + 2) [a, b] 0 1 (by simp) hl (by decide) (by decide) u
    refine s.trans ?_
    have s2 := word_step (k + 1) [a, b] (0 * 4294967296 + [a, b].getD 1 0) 0 (by simp) hl (by simp; omega) (by simp; omega) u
    refine s2.trans ?_
    refine (word_end _ _ _).trans ?_
    rw [e]
    simp
    omega
/-- What a finite number is, exactly. -/
theorem exact_ev (neg : Bool) {m e : Int} (m0 : 9223372036854775808 ≤ m) (m1 : m < 18446744073709551616) (e0 : -1048576 ≤ e) (e1 : e ≤ 1048576) :
    ∃ d, Rep d (sg neg m) e ∧ ∃ K, ∀ k, K ≤ k → pelorusref05_Exact.f k 1 neg m e = some (d.1, d.2.1, d.2.2, true) := by
  have hu : U [m % 4294967296, m / 4294967296] := by simp [U]; omega
  have hv : val [m % 4294967296, m / 4294967296] = m := by simp; omega
  have bm := bl_le (n := m) (m := 64) (by rw [p64]; exact m1)
  have bm0 := bl_pos (n := m) (by omega)
  obtain ⟨K1, h1⟩ := make2_ev neg [m % 4294967296, m / 4294967296] hu (by simp)
  rw [hv, decide_eq_true (by omega), Bool.and_true] at h1
  have ll := len_lim (v := m) (by omega) 64 (by rw [p64]; exact m1)
  obtain ⟨d, hd, K2, h2⟩ := make3_ev neg (lim m) e (U_lim (by omega)) (by omega) (by rw [val_lim (by omega)]; omega) (by omega) (by rw [val_lim (by omega)]; omega)
  rw [val_lim (by omega)] at hd
  refine ⟨d, hd, K1 + K2 + 1, fun k hk => ?_⟩
  obtain ⟨k, rfl⟩ : ∃ i, k = i + 1 := ⟨k - 1, by omega⟩
  unfold pelorusref05_Exact.f
  rw [may5_eq 1 neg m e m1, Option.bind_some, decide_eq_true (show mayP (1, neg, m, e) from .inr (.inl ⟨rfl, m0, m1, e0, e1⟩)), if_pos rfl]
  simp only [pelorusref05_Exact.j0, show ((1 : Int) == 2) = false from rfl, Bool.false_eq_true, if_false, show ¬ ((1 : Int) = 0) by decide]
  unfold pelorusref05_limbs.f
  rw [Option.bind_some, Int.tmod_eq_emod_of_nonneg (by omega), Int.tdiv_eq_ediv_of_nonneg (by omega), u64w (by omega) (by omega), show m % 4294967296 % 4294967296 = m % 4294967296 by omega, show m / 4294967296 % 4294967296 = m / 4294967296 by omega, h1 k (by omega), Option.bind_some, h2 k (by omega), Option.bind_some]
theorem exact0_ev (k : Nat) (hk : 1 ≤ k) : pelorusref05_Exact.f k 0 false 0 0 = some (false, [], 0, true) := by
  obtain ⟨k, rfl⟩ : ∃ i, k = i + 1 := ⟨k - 1, by omega⟩
  rfl
/-- Rounded. -/
theorem round_ev {d : Dd} {s f : Int} (hd : Rep d s f) (up : Bool) (hs : bl s.natAbs ≤ 90000) (f0 : -3000000 ≤ f) (f1 : f ≤ 3000000) :
    ∃ K, ∀ k, K ≤ k → pelorusref05_Round.f k d.1 d.2.1 d.2.2 up = some (rnz s f up) := by
  obtain ⟨a, ha, K1, h1⟩ := rep_make hd (by omega) (by omega) (by omega)
  rcases ha with ⟨rfl, rfl⟩ | ⟨o, t, o0, o1, s0, ho, rfl⟩
  · refine ⟨K1, fun k hk => ?_⟩
    unfold pelorusref05_Round.f
    rw [h1 k hk, Option.bind_some]
    rfl
  have bo := blp o0 t
  rw [← ho] at bo
  have po := bl_pos o0
  have lo := len_lim (v := o) (by omega) (bl o).toNat (bl_lt (by omega))
  have er : rnz s f up = rnd (decide (s < 0)) o (f + t) (up != decide (s < 0)) := by
    unfold rnz
    rw [if_neg s0, ho, rnd_scale o0]
  have nl := lim_nil_iff (n := o) (by omega)
  obtain ⟨K2, h2⟩ := rlen_ev (lim o) (U_lim (by omega)) (by omega)
  rw [val_lim (by omega)] at h2
  rw [er]
  generalize hneg : decide (s < 0) = neg
  rw [hneg] at h1
  by_cases hb : bl o ≤ 64
  · obtain ⟨j, hj⟩ : ∃ j : Nat, 64 - bl o = j := ⟨(64 - bl o).toNat, by omega⟩
    have w : wrap64 (64 - bl o) = (j : Int) := by rw [w64 (by omega) (by omega)]; omega
    obtain ⟨K3, h3⟩ := rshl_ev (lim o) j (U_lim (by omega)) (by omega)
    rw [val_lim (by omega), shlv_eq (by omega) (by omega), Int.toNat_natCast] at h3
    have pj := p2_pos j
    have v0 := Int.mul_pos o0 pj
    have v1 := mul_lt_p j (bl_lt (n := o) (by omega))
    rw [← p2_add, show (bl o).toNat + j = 64 by omega, p64] at v1
    obtain ⟨K4, h4⟩ := word_ev (v := o * 2 ^ j) (by omega) v1
    refine ⟨K1 + K2 + K3 + K4, fun k hk => ?_⟩
    unfold pelorusref05_Round.f
    rw [h1 k (by omega), Option.bind_some]
    simp only
    rw [if_neg (by omega), h2 k (by omega), Option.bind_some, if_pos hb, w, h3 k (by omega), Option.bind_some, h4 k (by omega), Option.bind_some, fin5_eq, Option.bind_some, w64 (x := f + (t : Int) + bl o) (by omega) (by omega), w64 (by omega) (by omega)]
    unfold rnd
    rw [if_pos hb, hj, Int.toNat_natCast]
  · obtain ⟨j, hj⟩ : ∃ j : Nat, bl o - 64 = (j + 1 : Nat) := ⟨(bl o - 65).toNat, by omega⟩
    have w : wrap64 (bl o - 64) = ((j + 1 : Nat) : Int) := by rw [w64 (by omega) (by omega)]; omega
    obtain ⟨K3, h3⟩ := rshr_ev (lim o) ((j + 1 : Nat) : Int) (U_lim (by omega)) (by omega)
    rw [val_lim (by omega), shrv_eq (by omega), Int.toNat_natCast] at h3
    have pj := p2_pos (j + 1)
    have q0 := Int.le_ediv_of_mul_le (a := 9223372036854775808) (b := o) pj (by
      have := bl_ge o0
      rw [show (bl o - 1).toNat = 63 + (j + 1) by omega, p2_add, p63] at this
      exact this)
    have q1 := Int.ediv_lt_of_lt_mul (a := o) (b := 18446744073709551616) pj (by
      have := bl_lt (n := o) (by omega)
      rw [show (bl o).toNat = 64 + (j + 1) by omega, p2_add, p64] at this
      exact this)
    have cut : decide (o % 2 ^ (j + 1) ≠ 0) = true := by
      refine decide_eq_true fun h => ?_
      have := Int.mul_ediv_add_emod o (2 ^ (j + 1))
      rw [h, p2_succ, Int.mul_assoc] at this
      omega
    have er2 : rnd neg o (f + t) (up != neg) = grw neg (o / 2 ^ (j + 1)) (f + t + bl o - 64) true (up != neg) := by
      unfold rnd
      rw [if_neg hb, hj, Int.toNat_natCast, cut]
    rw [er2]
    have w1 : wrap64 (wrap64 (f + (t : Int) + bl o) - 64) = f + t + bl o - 64 := by rw [w64 (x := f + (t : Int) + bl o) (by omega) (by omega), w64 (by omega) (by omega)]
    generalize hq : o / 2 ^ (j + 1) = q at *
    have lq := len_lim (v := q) (by omega) 64 (by rw [p64]; exact q1)
    cases haw : (up != neg)
    · obtain ⟨K4, h4⟩ := word_ev (v := q) (by omega) q1
      refine ⟨K1 + K2 + K3 + K4, fun k hk => ?_⟩
      unfold pelorusref05_Round.f
      rw [h1 k (by omega), Option.bind_some]
      simp only
      rw [if_neg (by omega), h2 k (by omega), Option.bind_some, if_neg hb, w, h3 k (by omega), Option.bind_some, haw, if_neg (by decide), h4 k (by omega), Option.bind_some, fin5_eq, Option.bind_some, w1]
      unfold grw
      rw [if_neg (by simp)]
    · obtain ⟨K4, h4⟩ := radd_ev (lim q) [1] (U_lim (by omega)) (U_single (by decide) (by decide)) (by omega) (by simp)
      rw [val_lim (by omega), show val [1] = 1 by simp] at h4
      have lq1 := len_lim (v := q + 1) (by omega) 65 (by rw [show (2 : Int) ^ 65 = 36893488147419103232 by decide]; omega)
      obtain ⟨K5, h5⟩ := rlen_ev (lim (q + 1)) (U_lim (by omega)) (by omega)
      rw [val_lim (by omega)] at h5
      by_cases hc : q + 1 = 18446744073709551616
      · have b65 : bl (q + 1) = 65 := by rw [hc]; decide +kernel
        obtain ⟨K6, h6⟩ := rshr_ev (lim (q + 1)) 1 (U_lim (by omega)) (by omega)
        rw [val_lim (by omega), show shrv (q + 1) 1 = 9223372036854775808 by rw [hc]; decide +kernel] at h6
        obtain ⟨K7, h7⟩ := word_ev (v := 9223372036854775808) (by decide) (by decide)
        refine ⟨K1 + K2 + K3 + K4 + K5 + K6 + K7, fun k hk => ?_⟩
        unfold pelorusref05_Round.f
        rw [h1 k (by omega), Option.bind_some]
        simp only
        rw [if_neg (by omega), h2 k (by omega), Option.bind_some, if_neg hb, w, h3 k (by omega), Option.bind_some, haw, if_pos rfl, h4 k (by omega), Option.bind_some, h5 k (by omega), Option.bind_some, if_pos (by omega), h6 k (by omega), Option.bind_some, h7 k (by omega), Option.bind_some, fin5_eq, Option.bind_some, w1, w64 (by omega) (by omega)]
        unfold grw
        rw [if_pos ⟨rfl, rfl⟩, if_pos hc]
      · have b64 := bl_le (n := q + 1) (m := 64) (by rw [p64]; omega)
        obtain ⟨K7, h7⟩ := word_ev (v := q + 1) (by omega) (by omega)
        refine ⟨K1 + K2 + K3 + K4 + K5 + K7, fun k hk => ?_⟩
        unfold pelorusref05_Round.f
        rw [h1 k (by omega), Option.bind_some]
        simp only
        rw [if_neg (by omega), h2 k (by omega), Option.bind_some, if_neg hb, w, h3 k (by omega), Option.bind_some, haw, if_pos rfl, h4 k (by omega), Option.bind_some, h5 k (by omega), Option.bind_some, if_neg (by omega), h7 k (by omega), Option.bind_some, fin5_eq, Option.bind_some, w1]
        unfold grw
        rw [if_pos ⟨rfl, rfl⟩, if_neg hc]

/-- The whole number of a finite one, or nought. -/
def sv (n : Nm) : Int := if n.1 = 1 then sg n.2.1 n.2.2.1 else 0
theorem sg_bd (n : Bool) {m : Int} (h0 : 0 ≤ m) {b : Int} (h1 : m < b) : -b < sg n m ∧ sg n m < b := by
  unfold sg; split <;> omega
/-- A finite number, or nought, exactly. -/
theorem ex_ev {a : Nm} (ha : mayP a) (h2 : a.1 ≠ 2) : ∃ d, (∀ j : Nat, Rep d (sv a * 2 ^ j) (a.2.2.2 - j)) ∧ -18446744073709551616 < sv a ∧ sv a < 18446744073709551616 ∧ ∃ K, ∀ k, K ≤ k → pelorusref05_Exact.f k a.1 a.2.1 a.2.2.1 a.2.2.2 = some (d.1, d.2.1, d.2.2, true) := by
  obtain ⟨a1, a2, a3, a4⟩ := a
  rcases ha with ⟨h1, q2, q3, q4⟩ | ⟨h1, q2, q3, q4, q5⟩ | ⟨h1, _⟩ <;> simp only at h1
  · simp only at q2 q3 q4
    subst h1 q2 q3 q4
    refine ⟨(false, [], 0), fun j => .inl ⟨?_, rfl⟩, by decide, by decide, 1, fun k hk => exact0_ev k hk⟩
    show 0 * 2 ^ j = 0
    omega
  · subst h1
    simp only at q2 q3 q4 q5
    obtain ⟨d, hd, hK⟩ := exact_ev a2 q2 q3 q4 q5
    have e : sv (1, a2, a3, a4) = sg a2 a3 := rfl
    have b := sg_bd a2 (by omega) q3
    refine ⟨d, fun j => ?_, by rw [e]; exact b.1, by rw [e]; exact b.2, hK⟩
    rw [e]
    refine Rep.scale j ?_
    rw [show a4 - (j : Int) + j = a4 by omega]
    exact hd
  · exact absurd h1 h2
theorem rnz_sv {a : Nm} (ha : mayP a) (h2 : a.1 ≠ 2) (up : Bool) : rnz (sv a) a.2.2.2 up = a := by
  obtain ⟨a1, a2, a3, a4⟩ := a
  rcases ha with ⟨h1, q2, q3, q4⟩ | ⟨h1, q2, q3, q4, q5⟩ | ⟨h1, _⟩ <;> simp only at h1
  · simp only at q2 q3 q4
    subst h1 q2 q3 q4
    rfl
  · subst h1
    simp only at q2 q3 q4 q5
    have e : sv (1, a2, a3, a4) = sg a2 a3 := rfl
    rw [e]
    simp only
    rw [rnz_sg (by omega), rnd_self q2 q3, bnd_in q4 q5]
  · exact absurd h1 h2
theorem sv_zero {a : Nm} (h : a.1 = 0) : sv a = 0 := by unfold sv; rw [if_neg (by omega)]
theorem addv_sv {a b : Nm} (ha : mayP a) (hb : mayP b) (a2 : a.1 ≠ 2) (b2 : b.1 ≠ 2) (up : Bool) (i j : Nat) (f : Int) (hi : f = a.2.2.2 - i) (hj : f = b.2.2.2 - j) (hf : f = min a.2.2.2 b.2.2.2) : rnz (sv a * 2 ^ i + sv b * 2 ^ j) f up = addv a b up := by
  have ha' := ha
  rcases ha with ⟨h1, _⟩ | ⟨h1, _⟩ | ⟨h1, _⟩
  · unfold addv
    rw [if_neg (fun h => a2 h.1), sv_zero h1, Int.zero_mul, Int.zero_add, hj, rnz_scale, show b.2.2.2 - (j : Int) + j = b.2.2.2 by omega, rnz_sv hb b2]
    by_cases z : b.1 = 0
    · rw [if_pos (.inr z)]
      rcases hb with ⟨g1, g2, g3, g4⟩ | ⟨g1, _⟩ | ⟨g1, _⟩
      · rcases ha' with ⟨_, k2, k3, k4⟩ | ⟨k1, _⟩ | ⟨k1, _⟩
        · obtain ⟨a1, a2, a3, a4⟩ := a
          obtain ⟨b1, b2, b3, b4⟩ := b
          simp only at h1 k2 k3 k4 g1 g2 g3 g4
          subst h1 k2 k3 k4 g1 g2 g3 g4
          rfl
        · omega
        · omega
      · omega
      · omega
    · rw [if_neg (by omega), if_pos (.inr h1)]
  · rcases hb with ⟨g1, _⟩ | ⟨g1, _⟩ | ⟨g1, _⟩
    · unfold addv
      rw [if_neg (fun h => a2 h.1), sv_zero g1, Int.zero_mul, Int.add_zero, hi, rnz_scale, show a.2.2.2 - (i : Int) + i = a.2.2.2 by omega, rnz_sv ha' a2, if_pos (.inr g1)]
    · rw [addv_fin h1 g1, hf]
      unfold exs sv
      rw [if_pos h1, if_pos g1]
      rw [show (a.2.2.2 - min a.2.2.2 b.2.2.2).toNat = i by omega, show (b.2.2.2 - min a.2.2.2 b.2.2.2).toNat = j by omega]
    · exact absurd g1 b2
  · exact absurd h1 a2
theorem add6_ev (a1 : Int) (a2 : Bool) (a3 a4 b1 : Int) (b2 : Bool) (b3 b4 : Int) (up : Bool) (ha : a3 < 18446744073709551616) (hb : b3 < 18446744073709551616)
    (fa : -4000 ≤ (fairv (a1, a2, a3, a4)).2.2.2 ∧ (fairv (a1, a2, a3, a4)).2.2.2 ≤ 4000) (fb : -4000 ≤ (fairv (b1, b2, b3, b4)).2.2.2 ∧ (fairv (b1, b2, b3, b4)).2.2.2 ≤ 4000) :
    ∃ K, ∀ k, K ≤ k → pelorusref06_Add.f k a1 a2 a3 a4 b1 b2 b3 b4 up = some (addv (fairv (a1, a2, a3, a4)) (fairv (b1, b2, b3, b4)) up) := by
  have key : ∀ a b : Nm, mayP a → mayP b → (-4000 ≤ a.2.2.2 ∧ a.2.2.2 ≤ 4000) → (-4000 ≤ b.2.2.2 ∧ b.2.2.2 ≤ 4000) → ∃ K, ∀ k, K ≤ k → (if a.1 = 2 then (if b.1 = 2 then (pelorusref06_Add.j0 k up (a.2.1 != b.2.1) a.1 a.2.1 a.2.2.1 a.2.2.2 b.1 b.2.1 b.2.2.1 b.2.2.2) else (pelorusref06_Add.j0 k up false a.1 a.2.1 a.2.2.1 a.2.2.2 b.1 b.2.1 b.2.2.1 b.2.2.2)) else (pelorusref06_Add.j0 k up false a.1 a.2.1 a.2.2.1 a.2.2.2 b.1 b.2.1 b.2.2.1 b.2.2.2)) = some (addv a b up) := by
    intro a b ma mb fa fb
    by_cases za : a.1 = 2
    · refine ⟨1, fun k hk => ?_⟩
      obtain ⟨k, rfl⟩ : ∃ m, k = m + 1 := ⟨k - 1, by omega⟩
      unfold addv
      by_cases zb : b.1 = 2
      · simp only [za, zb, if_true, pelorusref06_Add.j0, true_and, bne_iff_ne, ne_eq]
        by_cases hn : a.2.1 = b.2.1
        · rw [if_neg (by simpa using hn), if_neg (by simpa using hn), if_pos (by simp), ← za]
        · rw [if_pos (by simpa using hn), if_pos (by simpa using hn)]; rfl
      · simp only [za, zb, if_true, if_false, pelorusref06_Add.j0, Bool.false_eq_true]
        rw [if_neg (by simp), if_pos (by simp), ← za]
    by_cases zb : b.1 = 2
    · refine ⟨1, fun k hk => ?_⟩
      obtain ⟨k, rfl⟩ : ∃ m, k = m + 1 := ⟨k - 1, by omega⟩
      unfold addv
      simp only [za, zb, if_true, if_false, pelorusref06_Add.j0, Bool.false_eq_true]
      rw [if_neg (by simp), if_neg (by simp [za]), if_pos (by simp), ← zb]
    obtain ⟨i, j, f, hi, hj, hf, bi, bj⟩ : ∃ (i j : Nat) (f : Int), f = a.2.2.2 - i ∧ f = b.2.2.2 - j ∧ f = min a.2.2.2 b.2.2.2 ∧ i ≤ 8000 ∧ j ≤ 8000 := ⟨(a.2.2.2 - min a.2.2.2 b.2.2.2).toNat, (b.2.2.2 - min a.2.2.2 b.2.2.2).toNat, min a.2.2.2 b.2.2.2, by omega, by omega, rfl, by omega, by omega⟩
    obtain ⟨p, hp, pa0, pa1, K1, h1⟩ := ex_ev ma za
    obtain ⟨q, hq, qb0, qb1, K2, h2⟩ := ex_ev mb zb
    have hp := hp i
    have hq := hq j
    rw [← hi] at hp
    rw [← hj] at hq
    have bd : ∀ (s : Int) (i : Nat), i ≤ 8000 → -18446744073709551616 < s → s < 18446744073709551616 → -(2 ^ 8064) < s * 2 ^ i ∧ s * 2 ^ i < 2 ^ 8064 := fun s i hi h0 h1 => by
      have pi := p2_pos i
      have m := p2_mono (show 64 + i ≤ 8064 by omega)
      rw [p2_add, p64] at m
      have a1 := mul_lt_p i h1
      have a2 := mul_lt_p i h0
      rw [Int.neg_mul] at a2
      omega
    have ba := bd _ _ bi pa0 pa1
    have bb := bd _ _ bj qb0 qb1
    obtain ⟨d, hd, K3, h3⟩ := two_ev hp hq 8064 (by omega) (bl_abs ba.1 ba.2) (bl_abs bb.1 bb.2) (by omega) (by omega)
    have e65 : (2 : Int) ^ 8065 = 2 * 2 ^ 8064 := p2_succ 8064
    have bs := bl_abs (s := sv a * 2 ^ i + sv b * 2 ^ j) (n := 8065) (by omega) (by omega)
    obtain ⟨K4, h4⟩ := round_ev hd up (by omega) (by omega) (by omega)
    rw [addv_sv ma mb za zb up i j f hi hj hf] at h4
    refine ⟨K1 + K2 + K3 + K4 + 1, fun k hk => ?_⟩
    obtain ⟨k, rfl⟩ : ∃ m, k = m + 1 := ⟨k - 1, by omega⟩
    rw [if_neg za]
    simp only [pelorusref06_Add.j0, Bool.false_eq_true, if_false, if_neg za, if_neg zb]
    rw [h1 k (by omega), Option.bind_some, h2 k (by omega), Option.bind_some, h3 k (by omega), Option.bind_some, h4 k (by omega), Option.bind_some]
  obtain ⟨K, hK⟩ := key _ _ (fairv_may (a1, a2, a3, a4)) (fairv_may (b1, b2, b3, b4)) fa fb
  refine ⟨K, fun k hk => ?_⟩
  unfold pelorusref06_Add.f
  rw [fair6_eq a1 a2 a3 a4 ha, Option.bind_some, fair6_eq b1 b2 b3 b4 hb, Option.bind_some]
  exact hK k hk
end Go.Proofs.Ythlhogcnfaiphaa.T
