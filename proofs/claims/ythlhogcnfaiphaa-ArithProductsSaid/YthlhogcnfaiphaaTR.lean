/- What the document's answers for layers 2 and 3 are (pelorusref02, pelorusref03), as far as layer 6 needs them: exact numbers, as a sign, limbs and a power of two. -/
import Derived.Test.YthlhogcnfaiphaaPAx2
import Derived.Test.YthlhogcnfaiphaaT9
import Derived.Test.YthlhogcnfaiphaaTS
namespace Go.Proofs.Ythlhogcnfaiphaa.T
set_option linter.unusedVariables false
set_option linter.unusedSimpArgs false
open Go.RowKit Go.Proofs.YthlhogcnfaiphaaW.PrintWords Go.Proofs.YthlhogcnfaiphaaW.PrintMore Go.Proofs.Ythlhogcnfaiphaa.PA

theorem make2_ev (neg : Bool) (l : List Int) (h : U l) (hb : l.length ≤ 1073741824) : ∃ K, ∀ k, K ≤ k → pelorusref02_Make.f k neg l = some (neg && decide (val l ≠ 0), lim (val l)) := by
  obtain ⟨K, hK⟩ := rtrim_ev l h hb
  refine ⟨K, fun k hk => ?_⟩
  unfold pelorusref02_Make.f
  rw [hK k hk, Option.bind_some]
  have hn := val_nonneg h
  cases neg
  · rfl
  · rw [if_pos rfl]
    congr 2
    rw [Bool.true_and, decide_eq_decide]
    have := lim_nil_iff hn
    omega
theorem even_eq {v : Int} (hv : 0 ≤ v) : pelorusref03_even.f (lim v) = some (decide (v ≠ 0 ∧ v % 2 = 0)) := by
  unfold pelorusref03_even.f
  by_cases h : v = 0
  · subst h
    have : lim 0 = [] := limN_zero
    rw [this]; rfl
  · have hl := lim_pos (n := v) (by omega)
    have hlen : 0 < ((lim v).length : Int) := by rw [hl]; simp
    rw [if_pos (by omega), if_pos (by omega), rd_eq, hl]
    simp only [Int.toNat_zero, List.getD_cons_zero]
    congr 1
    rw [Int.tmod_eq_emod_of_nonneg (by omega), Bool.eq_iff_iff, beq_iff_eq, decide_eq_true_iff]
    omega
theorem len_lim {v : Int} (hv : 0 ≤ v) (n : Nat) (h : v < 2 ^ n) : (lim v).length ≤ n / 32 + 1 := by
  refine lim_len hv _ ?_
  rw [p2_limb]
  exact Int.lt_of_lt_of_le h (p2_mono (by omega))
theorem bl_half {v : Int} (hv : 0 < v) (he : v % 2 = 0) : bl v = bl (v / 2) + 1 := by
  have := blp (v := v / 2) (by omega) 1
  rw [Int.pow_one, show v / 2 * 2 = v by omega] at this
  exact this
/-- Halved as often as that goes. -/
theorem m3_loop (neg : Bool) (n : Nat) : ∀ (v e i : Int), 0 < v → bl v = n → 0 ≤ i → i + n ≤ 4000000 → n ≤ 100000 → -4194304 ≤ e → e + n ≤ 4194304 →
    ∃ (o : Int) (t : Nat), 0 < o ∧ o % 2 = 1 ∧ v = o * 2 ^ t ∧ ∃ K, ∀ k, K ≤ k → pelorusref03_Make.l0 k e i neg (lim v) = some (neg, lim o, e + t) := by
  induction n with
  | zero => intro v e i hv hb; have := bl_pos hv; omega
  | succ n ih =>
    intro v e i hv hb i0 i1 hn e0 e1
    have ev := even_eq (v := v) (by omega)
    by_cases h2 : v % 2 = 0
    · have hb2 := bl_half hv h2
      obtain ⟨o, t, o0, o1, ho, hE⟩ := ih (v / 2) (e + 1) (i + 1) (by omega) (by omega) (by omega) (by omega) (by omega) (by omega) (by omega)
      refine ⟨o, t + 1, o0, o1, ?_, ?_⟩
      · rw [p2_succ, ← Int.mul_assoc, Int.mul_comm o 2, Int.mul_assoc, ← ho]; omega
      · have hl := len_lim (v := v) (by omega) (bl v).toNat (bl_lt (by omega))
        have s := rshr_ev (lim v) 1 (U_lim (by omega)) (by omega)
        rw [val_lim (by omega)] at s
        have sv : shrv v 1 = v / 2 := by unfold shrv; rw [if_neg (by decide)]; rfl
        rw [sv] at s
        obtain ⟨K1, s⟩ := s
        obtain ⟨K2, hE⟩ := hE
        refine ⟨K1 + K2 + 1, fun k hk => ?_⟩
        obtain ⟨k, rfl⟩ : ∃ m, k = m + 1 := ⟨k - 1, by omega⟩
        simp only [pelorusref03_Make.l0]
        rw [if_pos (by omega), ev, Option.bind_some, decide_eq_true ⟨by omega, h2⟩, if_pos rfl, s k (by omega), Option.bind_some, w64 (by omega) (by omega), w64 (by omega) (by omega), hE k (by omega)]
        congr 3
        omega
    · refine ⟨v, 0, hv, by omega, by simp, 1, fun k hk => ?_⟩
      obtain ⟨k, rfl⟩ : ∃ m, k = m + 1 := ⟨k - 1, by omega⟩
      simp only [pelorusref03_Make.l0]
      rw [if_pos (by omega), ev, Option.bind_some, decide_eq_false (fun h => h2 h.2), if_neg (by decide), if_neg (by omega)]
      congr 3
      omega
abbrev Dd := Bool × List Int × Int
/-- Which number s * 2^f is, its limbs odd. -/
def Rep (d : Dd) (s f : Int) : Prop := (s = 0 ∧ d = (false, [], 0)) ∨ ∃ (o : Int) (t : Nat), 0 < o ∧ o % 2 = 1 ∧ s ≠ 0 ∧ (s.natAbs : Int) = o * 2 ^ t ∧ d = (decide (s < 0), lim o, f + t)
theorem Rep.scale {d : Dd} {s f : Int} (j : Nat) (h : Rep d s (f + j)) : Rep d (s * 2 ^ j) f := by
  have hp := p2_pos j
  rcases h with ⟨rfl, h⟩ | ⟨o, t, o0, o1, s0, hs, hd⟩
  · exact .inl ⟨by omega, h⟩
  · refine .inr ⟨o, t + j, o0, o1, Int.mul_ne_zero s0 (by omega), ?_, ?_⟩
    · rw [Int.natAbs_mul, Int.natCast_mul, show ((((2 : Int) ^ j).natAbs : Nat) : Int) = 2 ^ j from Int.natAbs_of_nonneg (by omega), hs, p2_add, Int.mul_assoc]
    · rw [hd]
      have : decide (s * 2 ^ j < 0) = decide (s < 0) := by
        by_cases h2 : s < 0
        · rw [decide_eq_true h2, decide_eq_true (Int.mul_neg_of_neg_of_pos h2 hp)]
        · rw [decide_eq_false h2, decide_eq_false]
          have := Int.mul_pos (show 0 < s by omega) hp
          omega
      rw [this]
      congr 2
      omega
theorem sg_abs (neg : Bool) {v : Int} (hv : 0 ≤ v) : ((sg neg v).natAbs : Int) = v := by
  unfold sg
  cases neg
  · simp only [Bool.false_eq_true, if_false]; exact Int.natAbs_of_nonneg hv
  · simp only [if_true, Int.natAbs_neg]; exact Int.natAbs_of_nonneg hv
theorem sg_lt (neg : Bool) {v : Int} (hv : 0 < v) : decide (sg neg v < 0) = neg := by
  unfold sg
  cases neg
  · simp only [Bool.false_eq_true, if_false]; exact decide_eq_false (by omega)
  · simp only [if_true]; exact decide_eq_true (by omega)
theorem sg_ne (neg : Bool) {v : Int} (hv : 0 < v) : sg neg v ≠ 0 := by
  unfold sg
  cases neg
  · simp only [Bool.false_eq_true, if_false]; omega
  · simp only [if_true]; omega
theorem sg_of (s : Int) : sg (decide (s < 0)) s.natAbs = s := by
  unfold sg
  by_cases h : s < 0
  · rw [decide_eq_true h, if_pos rfl]; omega
  · rw [decide_eq_false h, if_neg (by decide)]; omega
theorem make3_ev (neg : Bool) (l : List Int) (e : Int) (h : U l) (hb : l.length ≤ 1073741824) (hl : bl (val l) ≤ 100000) (e0 : -4194304 ≤ e) (e1 : e + bl (val l) ≤ 4194304) :
    ∃ d, Rep d (sg neg (val l)) e ∧ ∃ K, ∀ k, K ≤ k → pelorusref03_Make.f k neg l e = some d := by
  have hn := val_nonneg h
  obtain ⟨K, hK⟩ := make2_ev neg l h hb
  by_cases hz : val l = 0
  · refine ⟨(false, [], 0), .inl ⟨by rw [hz]; cases neg <;> rfl, rfl⟩, K + 1, fun k hk => ?_⟩
    obtain ⟨k, rfl⟩ : ∃ m, k = m + 1 := ⟨k - 1, by omega⟩
    unfold pelorusref03_Make.f
    rw [hK (k + 1) (by omega), Option.bind_some, hz, show lim 0 = [] from limN_zero]
    rfl
  · have bp := bl_pos (n := val l) (by omega)
    obtain ⟨o, t, o0, o1, ho, K2, hE⟩ := m3_loop neg (bl (val l)).toNat (val l) e 0 (by omega) (by omega) (by decide) (by omega) (by omega) e0 (by omega)
    refine ⟨(neg, lim o, e + t), .inr ⟨o, t, o0, o1, sg_ne neg (by omega), by rw [sg_abs neg hn]; exact ho, by rw [sg_lt neg (by omega)]⟩, K + K2 + 1, fun k hk => ?_⟩
    obtain ⟨k, rfl⟩ : ∃ m, k = m + 1 := ⟨k - 1, by omega⟩
    unfold pelorusref03_Make.f
    rw [hK (k + 1) (by omega), Option.bind_some]
    simp only
    have := lim_nil_iff hn
    rw [if_neg (by omega), if_neg (by omega), decide_eq_false (show ¬ e > 4194304 by omega), decide_eq_true hz, Bool.and_true]
    simp only [pelorusref03_Make.j0, Bool.false_eq_true, if_false]
    exact hE k (by omega)
/-- Made once more it is the same number. -/
theorem rep_make {d : Dd} {s f : Int} (h : Rep d s f) (hb : bl s.natAbs ≤ 100000) (f0 : -4194304 ≤ f) (f1 : f + bl s.natAbs ≤ 4194304) : ∃ d', Rep d' s f ∧ ∃ K, ∀ k, K ≤ k → pelorusref03_Make.f k d.1 d.2.1 d.2.2 = some d' := by
  rcases h with ⟨rfl, rfl⟩ | ⟨o, t, o0, o1, s0, hs, rfl⟩
  · obtain ⟨d', h1, h2⟩ := make3_ev false [] 0 U_nil (by simp) (by decide) (by decide) (by decide)
    refine ⟨d', ?_, h2⟩
    rcases h1 with ⟨_, h1⟩ | ⟨_, _, _, _, h1, _⟩
    · exact .inl ⟨rfl, h1⟩
    · exact absurd rfl h1
  · have bs := blp o0 t
    rw [← hs] at bs
    have bo := bl_nonneg o
    have hl := len_lim (v := o) (by omega) (bl o).toNat (bl_lt (by omega))
    have v := val_lim (n := o) (by omega)
    obtain ⟨d', h1, h2⟩ := make3_ev (decide (s < 0)) (lim o) (f + t) (U_lim (by omega)) (by omega) (by rw [v]; omega) (by omega) (by rw [v]; omega)
    rw [v] at h1
    refine ⟨d', ?_, h2⟩
    have h3 := h1.scale
    have e : sg (decide (s < 0)) o * 2 ^ t = s := by
      conv => rhs; rw [← sg_of s, hs]
      unfold sg
      split
      · rw [Int.neg_mul]
      · rfl
    rwa [e] at h3
/-- The sum of two with signs. -/
theorem add2_ev (na nb : Bool) {x y : Int} (x0 : 0 ≤ x) (y0 : 0 ≤ y) (n : Nat) (hn : n ≤ 200000) (hx : x < 2 ^ n) (hy : y < 2 ^ n) :
    ∃ neg, (∃ K, ∀ k, K ≤ k → pelorusref02_Add.f k na (lim x) nb (lim y) = some (neg, lim (sg na x + sg nb y).natAbs)) ∧ (sg na x + sg nb y ≠ 0 → neg = decide (sg na x + sg nb y < 0)) := by
  have lx := len_lim x0 n hx
  have ly := len_lim y0 n hy
  have vx := val_lim x0
  have vy := val_lim y0
  have ux := U_lim x0
  have uy := U_lim y0
  by_cases h : na = nb
  · subst h
    obtain ⟨K1, a⟩ := radd_ev (lim x) (lim y) ux uy (by omega) (by omega)
    rw [vx, vy] at a
    have hp := p2_succ n
    have l2 := len_lim (v := x + y) (by omega) (n + 1) (by omega)
    obtain ⟨K2, b⟩ := make2_ev na (lim (x + y)) (U_lim (by omega)) (by omega)
    rw [val_lim (n := x + y) (by omega)] at b
    have e : sg na x + sg na y = sg na (x + y) := by unfold sg; split <;> omega
    rw [e]
    refine ⟨na && decide (x + y ≠ 0), ⟨K1 + K2, fun k hk => ?_⟩, ?_⟩
    · unfold pelorusref02_Add.f
      rw [if_pos (by simp), a k (by omega), Option.bind_some, b k (by omega), Option.bind_some, sg_abs na (by omega)]
    · intro h
      by_cases z : x + y = 0
      · rw [z] at h; exact absurd (by unfold sg; split <;> rfl) h
      · rw [sg_lt na (by omega), decide_eq_true z, Bool.and_true]
  · have hq : ¬ (na == nb) = true := by simpa using h
    have hnb : nb = !na := by cases na <;> cases nb <;> simp_all
    obtain ⟨K1, a⟩ := rsub_ev (lim x) (lim y) ux uy (by omega) (by omega)
    rw [vx, vy] at a
    by_cases hlt : x < y
    · obtain ⟨K2, b⟩ := rsub_ev (lim y) (lim x) uy ux (by omega) (by omega)
      rw [vx, vy, if_neg (by omega)] at b
      rw [if_pos hlt] at a
      have l2 := len_lim (v := y - x) (by omega) n (by omega)
      obtain ⟨K3, c⟩ := make2_ev nb (lim (y - x)) (U_lim (by omega)) (by omega)
      rw [val_lim (n := y - x) (by omega)] at c
      have e : sg na x + sg nb y = sg nb (y - x) := by subst hnb; unfold sg; cases na <;> simp <;> omega
      rw [e]
      refine ⟨nb && decide (y - x ≠ 0), ⟨K1 + K2 + K3, fun k hk => ?_⟩, ?_⟩
      · unfold pelorusref02_Add.f
        rw [if_neg hq, a k (by omega), Option.bind_some, if_neg (by decide), b k (by omega), Option.bind_some]
        simp only
        rw [c k (by omega), Option.bind_some, sg_abs nb (by omega)]
      · intro _
        rw [sg_lt nb (by omega), decide_eq_true (by omega), Bool.and_true]
    · rw [if_neg hlt] at a
      have l2 := len_lim (v := x - y) (by omega) n (by omega)
      obtain ⟨K3, c⟩ := make2_ev na (lim (x - y)) (U_lim (by omega)) (by omega)
      rw [val_lim (n := x - y) (by omega)] at c
      have e : sg na x + sg nb y = sg na (x - y) := by subst hnb; unfold sg; cases na <;> simp <;> omega
      rw [e]
      refine ⟨na && decide (x - y ≠ 0), ⟨K1 + K3, fun k hk => ?_⟩, ?_⟩
      · unfold pelorusref02_Add.f
        rw [if_neg hq, a k (by omega), Option.bind_some, if_pos rfl]
        simp only
        rw [c k (by omega), Option.bind_some, sg_abs na (by omega)]
      · intro h
        by_cases z : x - y = 0
        · rw [z] at h; exact absurd (by unfold sg; split <;> rfl) h
        · rw [sg_lt na (by omega), decide_eq_true z, Bool.and_true]
end Go.Proofs.Ythlhogcnfaiphaa.T
