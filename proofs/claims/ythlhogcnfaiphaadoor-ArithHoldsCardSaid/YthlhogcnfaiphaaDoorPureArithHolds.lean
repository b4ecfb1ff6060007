/- The exact sum and the exact product of two finite numbers lie between what is rounded down and what is rounded up; where both are one that is it. -/
import Derived.Test.YthlhogcnfaiphaaDoorPAx2
import Derived.Test.YthlhogcnfaiphaaDoorTQ3
namespace Go.Proofs.YthlhogcnfaiphaaDoor.Pure
set_option linter.unusedVariables false
set_option linter.unusedSimpArgs false
open Go.RowKit Go.Proofs.YthlhogcnfaiphaaDoorW.PrintWords Go.Proofs.YthlhogcnfaiphaaDoorW.PrintMore Go.Proofs.YthlhogcnfaiphaaDoor.PA Go.Proofs.YthlhogcnfaiphaaDoor.T

theorem mulv_rnz {a b : Nm} (ha : mayP a) (hb : mayP b) (a2 : a.1 ≠ 2) (b2 : b.1 ≠ 2) (up : Bool) : rnz (sv a * sv b) (a.2.2.2 + b.2.2.2) up = mulv a b up := by
  by_cases ha0 : a.1 = 0
  · rw [sv_zero ha0, Int.zero_mul]
    unfold rnz mulv
    rw [if_pos rfl, if_pos (.inl ha0)]
  by_cases hb0 : b.1 = 0
  · rw [sv_zero hb0, Int.mul_zero]
    unfold rnz mulv
    rw [if_pos rfl, if_pos (.inr hb0)]
  have a1 : a.1 = 1 := by rcases ha with h | h | h <;> omega
  have b1 : b.1 = 1 := by rcases hb with h | h | h <;> omega
  have fa := may_fin ha a1
  have fb := may_fin hb b1
  rw [mulv_fin a1 b1]
  unfold sv
  rw [if_pos a1, if_pos b1, ← sg_mul]
  exact rnz_sg (Int.mul_pos (by omega) (by omega)) _ _ _
/-- A finite number's value at a power below it. -/
theorem up_z {n : Bool} {l : List Int} {e f S : Int} {N M : Nat} (h : Z n l e f S N) (hN : N ≤ M) : Z n l e f S M := ⟨h.u, h.len, h.lo, h.hi, h.eq, abs_mono h.bd hN⟩
theorem holds_ev {n : Bool} {l : List Int} {e f S : Int} {N : Nat} (h : Z n l e f S N) (hN : N ≤ 7000) (f0 : -4000 ≤ f) (f1 : f ≤ 0) :
    ∃ K, ∀ k, K ≤ k → peloruslaw06_holds.f k n l e (rnz S f false).1 (rnz S f false).2.1 (rnz S f false).2.2.1 (rnz S f false).2.2.2 (rnz S f true).1 (rnz S f true).2.1 (rnz S f true).2.2.1 (rnz S f true).2.2.2 = some true := by
  have bb := bl_le h.bd
  have bb0 := bl_nonneg (S.natAbs : Int)
  obtain ⟨t1, t2, g1, g2, e1, e2, tc⟩ := rnz_tight (S := S) (f := f) (g := f - 100) (X := 7000) (by omega) (by omega) (by decide) (by decide) (by omega) (by omega)
  have m1 := rnz_may S f false
  have m2 := rnz_may S f true
  obtain ⟨p, zp, rp, K3, h3⟩ := nexact_z m1 t1 (g := f - 100) (by omega) (by omega) g1 (by omega)
  obtain ⟨q, zq, rq, K4, h4⟩ := nexact_z m2 t2 (g := f - 100) (by omega) (by omega) g2 (by omega)
  have zd := h.down 100
  rw [show f - ((100 : Nat) : Int) = f - 100 by omega] at zd
  have zp := up_z (M := 20000) zp (by omega)
  have zq := up_z (M := 20000) zq (by omega)
  have zd := up_z (M := 20000) zd (by omega)
  obtain ⟨K5, h5⟩ := cmp_z zp zd (by decide) (by omega) (by omega)
  obtain ⟨K6, h6⟩ := cmp_z zq zd (by decide) (by omega) (by omega)
  obtain ⟨K7, h7⟩ := cmp_z zd zq (by decide) (by omega) (by omega)
  rw [show (f - (f - 100)).toNat = 100 by omega] at tc
  have nx := kv_up m1 (fun h => absurd h t1)
  generalize rnz S f false = a at *
  generalize rnz S f true = b at *
  generalize S * 2 ^ 100 = C at *
  refine ⟨K3 + K4 + K5 + K6 + K7 + 9, fun k hk => ?_⟩
  obtain ⟨k, rfl⟩ : ∃ m, k = m + 1 := ⟨k - 1, by omega⟩
  unfold peloruslaw06_holds.f
  rw [h3 _ (by omega), Option.bind_some, h4 _ (by omega), Option.bind_some, if_pos rfl, if_pos rfl, h5 _ (by omega), Option.bind_some]
  rcases tc with ⟨rfl, hA⟩ | ⟨hA, hB, hk2⟩
  · rw [hA, Int.sub_self, sgn_zero] at h6
    rw [hA, Int.sub_self, sgn_zero, if_neg (by decide), h6 _ (by omega), Option.bind_some, decide_eq_false (by decide)]
    simp only [peloruslaw06_holds.j0, Bool.false_eq_true, if_false]
    rw [nm_beq rfl, if_pos rfl]
  · generalize sv a * 2 ^ (a.2.2.2 - (f - 100)).toNat = A at *
    generalize sv b * 2 ^ (b.2.2.2 - (f - 100)).toNat = B at *
    rw [sgn_neg (show A - C < 0 by omega)] at h5
    rw [sgn_pos (show 0 < B - C by omega)] at h6
    rw [sgn_neg (show C - B < 0 by omega)] at h7
    rw [sgn_neg (show A - C < 0 by omega), if_neg (by decide), h6 _ (by omega), Option.bind_some, decide_eq_false (by decide)]
    simp only [peloruslaw06_holds.j0, Bool.false_eq_true, if_false]
    have en : nextv a true = b := kv_inj (nextv_may m1 true) m2 (by omega)
    have ne : (a.1 == b.1 && (a.2.1 == b.2.1 && (a.2.2.1 == b.2.2.1 && (a.2.2.2 == b.2.2.2)))) = false := by
      rw [nm_beq', decide_eq_false]
      rintro rfl
      omega
    rw [ne, if_neg (by decide), nxt_g _ (by omega) true m1, Option.bind_some, en, nm_beq rfl, if_pos rfl, h5 _ (by omega), Option.bind_some, if_pos (by decide), h7 _ (by omega), Option.bind_some]
    rfl
theorem few6_eq (a : Int) (b : Bool) (c e : Int) : peloruslaw06_Few.f a b c e = some (decide (a = 1 → -1500 ≤ e ∧ e ≤ 1500)) := by
  unfold peloruslaw06_Few.f
  by_cases h : a = 1
  · rw [if_pos h]
    by_cases h2 : e ≥ -1500
    · rw [if_pos h2]; congr 1; exact decide_eq_decide.2 ⟨fun h3 _ => ⟨h2, h3⟩, fun h3 => (h3 h).2⟩
    · rw [if_neg h2, decide_eq_false (fun h3 => h2 (h3 h).1)]
  · rw [if_neg h, decide_eq_true (fun h3 => absurd h3 h)]
/-- Exactly, or not at all. -/
theorem exact_any {x : S24} (ox : ok24 x) : ∃ d : Dd, ∃ b : Bool, (b = true → mayP (x.f0, x.f1, x.f2, x.f3) ∧ x.f0 ≠ 2 ∧ Rep d (sv (x.f0, x.f1, x.f2, x.f3)) x.f3) ∧ ∃ K, ∀ k, K ≤ k → num_Exact.f k x.f0 x.f1 x.f2 x.f3 = some (d.1, d.2.1, d.2.2, b) := by
  by_cases hm : mayP (x.f0, x.f1, x.f2, x.f3) ∧ x.f0 ≠ 2
  · obtain ⟨d, rd, h1⟩ := nexact_ev hm.1 hm.2
    exact ⟨d, true, fun _ => ⟨hm.1, hm.2, rd⟩, h1⟩
  · refine ⟨(false, [], 0), false, (fun h => nomatch h), 1, fun k hk => ?_⟩
    obtain ⟨k, rfl⟩ : ∃ m, k = m + 1 := ⟨k - 1, by omega⟩
    unfold num_Exact.f
    rw [may_s ox, Option.bind_some]
    by_cases h2 : mayP (x.f0, x.f1, x.f2, x.f3)
    · have : x.f0 = 2 := by
        apply Classical.byContradiction
        intro h3; exact hm ⟨h2, h3⟩
      rw [if_pos (decide_eq_true h2), this]
      rfl
    · rw [if_neg (by simpa using h2)]
      rfl
theorem ArithHolds : peloruslaw06_ArithHolds.Pure := by
  intro x y ox oy
  obtain ⟨Ka, ha⟩ : ∃ Ka, ∀ k, Ka ≤ k → peloruslaw06_awake.f k = some true := ⟨9, awake_ev⟩
  obtain ⟨p, bx, hp, K1, h1⟩ := exact_any ox
  obtain ⟨q, by_, hq, K2, h2⟩ := exact_any oy
  by_cases hall : ((x.f0 = 1 → -1500 ≤ x.f3 ∧ x.f3 ≤ 1500) ∧ (y.f0 = 1 → -1500 ≤ y.f3 ∧ y.f3 ≤ 1500)) ∧ bx = true ∧ by_ = true
  case neg =>
    refine ⟨Ka + K1 + K2 + 1, ?_, fun r hr => by rw [ha _ (by omega)] at hr; exact (Option.some.inj hr).symm⟩
    unfold peloruslaw06_ArithHolds.f
    rw [ha _ (by omega), Option.bind_some, few6_eq, Option.bind_some, few6_eq, Option.bind_some, h1 _ (by omega), Option.bind_some, h2 _ (by omega), Option.bind_some, if_pos rfl]
    by_cases c1 : x.f0 = 1 → -1500 ≤ x.f3 ∧ x.f3 ≤ 1500
    · rw [decide_eq_true c1, if_pos rfl]
      by_cases c2 : y.f0 = 1 → -1500 ≤ y.f3 ∧ y.f3 ≤ 1500
      · rw [decide_eq_true c2, if_pos rfl]
        cases bx
        · rw [if_neg (by simp)]; rfl
        · rw [if_pos rfl]
          cases by_
          · rfl
          · exact absurd ⟨⟨c1, c2⟩, rfl, rfl⟩ hall
      · rw [decide_eq_false c2, if_neg (by decide)]; rfl
    · rw [decide_eq_false c1, if_neg (by decide)]; rfl
  obtain ⟨⟨c1, c2⟩, rfl, rfl⟩ := hall
  obtain ⟨mx, x2, rx⟩ := hp rfl
  obtain ⟨my, y2, ry⟩ := hq rfl
  have ex : -1500 ≤ x.f3 ∧ x.f3 ≤ 1500 := by
    rcases mx with ⟨h, _, _, h4⟩ | ⟨h, _⟩ | ⟨h, _⟩
    · simp only at h4; omega
    · exact c1 h
    · exact absurd h x2
  have ey : -1500 ≤ y.f3 ∧ y.f3 ≤ 1500 := by
    rcases my with ⟨h, _, _, h4⟩ | ⟨h, _⟩ | ⟨h, _⟩
    · simp only at h4; omega
    · exact c2 h
    · exact absurd h y2
  have b1 := sv_bd mx
  have b2 := sv_bd my
  have nx : nm x = (x.f0, x.f1, x.f2, x.f3) := fairv_of mx
  have ny : nm y = (y.f0, y.f1, y.f2, y.f3) := fairv_of my
  obtain ⟨i, hi, i1⟩ : ∃ i : Nat, x.f3 = -1500 + (i : Int) ∧ i ≤ 3000 := ⟨(x.f3 + 1500).toNat, by omega, by omega⟩
  obtain ⟨j, hj, j1⟩ : ∃ j : Nat, y.f3 = -1500 + (j : Int) ∧ j ≤ 3000 := ⟨(y.f3 + 1500).toNat, by omega, by omega⟩
  have s1 : ∀ up, rnz (sv (x.f0, x.f1, x.f2, x.f3) * 2 ^ i + sv (y.f0, y.f1, y.f2, y.f3) * 2 ^ j) (-1500) up = addv (nm x) (nm y) up := fun up => by
    rw [nx, ny]
    exact addv_gen mx my x2 y2 up (by simp only; omega) (by simp only; omega)
  have s2 : ∀ up, rnz (sv (x.f0, x.f1, x.f2, x.f3) * 2 ^ i * (sv (y.f0, y.f1, y.f2, y.f3) * 2 ^ j)) (-3000) up = mulv (nm x) (nm y) up := fun up => by
    have h := mulv_rnz mx my x2 y2 up
    rw [nx, ny, ← h]
    have e : ∀ X Y u v : Int, X * u * (Y * v) = X * Y * (u * v) := fun X Y u v => by rw [Int.mul_assoc, Int.mul_assoc, Int.mul_left_comm u Y v]
    rw [e, ← p2_add, rnz_scale]
    congr 1
    simp only
    omega
  replace rx : Rep p (sv (x.f0, x.f1, x.f2, x.f3)) (-1500 + (i : Int)) := by rw [← hi]; exact rx
  replace ry : Rep q (sv (y.f0, y.f1, y.f2, y.f3)) (-1500 + (j : Int)) := by rw [← hj]; exact ry
  have zp := Z.of_rep (N := 3064) rx.scale (by rw [abs_mulp]; exact Int.lt_of_lt_of_le (mul_lt_p i b1) (by rw [← p2_add]; exact p2_mono (by omega))) (by decide) (by decide) (by decide)
  have zq := Z.of_rep (N := 3064) ry.scale (by rw [abs_mulp]; exact Int.lt_of_lt_of_le (mul_lt_p j b2) (by rw [← p2_add]; exact p2_mono (by omega))) (by decide) (by decide) (by decide)
  obtain ⟨s, rs, K3, h3⟩ := add2_z zp zq (by decide) (by decide) (by decide)
  obtain ⟨m, rm, K4, h4⟩ := mul_z zp zq (by decide) (by decide) (by decide) (by decide) (by decide)
  obtain ⟨K5, h5⟩ := holds_ev (Z.of_rep rs (abs_add_lt zp.bd zq.bd) (by decide) (by decide) (by decide)) (by decide) (by decide) (by decide)
  obtain ⟨K6, h6⟩ := holds_ev (Z.of_rep rm (abs_mul_lt zp.bd zq.bd) (by decide) (by decide) (by decide)) (by decide) (by decide) (by decide)
  rw [s1, s1] at h5
  rw [show (-1500 : Int) + -1500 = -3000 by decide, s2, s2] at h6
  refine ⟨Ka + K1 + K2 + K3 + K4 + K5 + K6 + 20, ?_, fun r hr => by rw [ha _ (by omega)] at hr; exact (Option.some.inj hr).symm⟩
  unfold peloruslaw06_ArithHolds.f
  rw [ha _ (by omega), Option.bind_some, few6_eq, Option.bind_some, few6_eq, Option.bind_some, h1 _ (by omega), Option.bind_some, h2 _ (by omega), Option.bind_some, if_pos rfl, decide_eq_true c1, if_pos rfl, decide_eq_true c2, if_pos rfl, if_pos rfl]
  simp only [peloruslaw06_ArithHolds.j0, Bool.not_true, Bool.false_eq_true, if_false]
  rw [h3 _ (by omega), Option.bind_some, h4 _ (by omega), Option.bind_some, add_ss _ (by omega) false ox oy, Option.bind_some, add_ss _ (by omega) true ox oy, Option.bind_some, h5 _ (by omega), Option.bind_some, mul_ss _ (by omega) false ox oy, Option.bind_some, mul_ss _ (by omega) true ox oy, Option.bind_some, h6 _ (by omega), Option.bind_some, if_pos rfl]
end Go.Proofs.YthlhogcnfaiphaaDoor.Pure
