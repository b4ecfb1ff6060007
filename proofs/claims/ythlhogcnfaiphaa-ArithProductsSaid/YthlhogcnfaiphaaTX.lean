/- The document's sums, products, halves: what they are for any numbers (sums: for exponents up to 1500). -/
import Derived.Test.YthlhogcnfaiphaaPAx2
import Derived.Test.YthlhogcnfaiphaaTW
namespace Go.Proofs.Ythlhogcnfaiphaa.T
set_option linter.unusedVariables false
set_option linter.unusedSimpArgs false
open Go.RowKit Go.Proofs.YthlhogcnfaiphaaW.PrintWords Go.Proofs.YthlhogcnfaiphaaW.PrintMore Go.Proofs.Ythlhogcnfaiphaa.PA

/-- The whole number of a finite one, or nought. -/
def sv (n : Nm) : Int := if n.1 = 1 then sg n.2.1 n.2.2.1 else 0
theorem sg_bd (n : Bool) {m : Int} (h0 : 0 ≤ m) {b : Int} (h1 : m < b) : -b < sg n m ∧ sg n m < b := by
  unfold sg; split <;> omega
/-- A finite number, or nought, exactly. -/
theorem ex_ev {a : Nm} (ha : mayP a) (h2 : a.1 ≠ 2) : ∃ d, (∀ j : Nat, Rep d (sv a * 2 ^ j) (a.2.2.2 - j)) ∧ -18446744073709551616 < sv a ∧ sv a < 18446744073709551616 ∧ ∃ K, ∀ k, K ≤ k → pelorusref05_Exact.f k a.1 a.2.1 a.2.2.1 a.2.2.2 = some (d.1, d.2.1, d.2.2, true) := by
  obtain ⟨a1, a2, a3, a4⟩ := a
  rcases ha with ⟨h1, q2, q3, q4⟩ | ⟨h1, q2, q3, q4, q5⟩ | ⟨h1, _⟩ <;> simp only at h1
  · simp only at q2 q3 q4
    subst h1 q2 q3 q4
    refine ⟨(false, [], 0), fun j => .inl ⟨?_, rfl⟩, by decide, by decide, 1, fun k hk => exact0_ev k hk⟩
    show 0 * 2 ^ j = 0
    omega
  · subst h1
    simp only at q2 q3 q4 q5
    obtain ⟨d, hd, hK⟩ := exact_ev a2 q2 q3 q4 q5
    have e : sv (1, a2, a3, a4) = sg a2 a3 := rfl
    have b := sg_bd a2 (by omega) q3
    refine ⟨d, fun j => ?_, by rw [e]; exact b.1, by rw [e]; exact b.2, hK⟩
    rw [e]
    refine Rep.scale j ?_
    rw [show a4 - (j : Int) + j = a4 by omega]
    exact hd
  · exact absurd h1 h2
theorem rnz_sv {a : Nm} (ha : mayP a) (h2 : a.1 ≠ 2) (up : Bool) : rnz (sv a) a.2.2.2 up = a := by
  obtain ⟨a1, a2, a3, a4⟩ := a
  rcases ha with ⟨h1, q2, q3, q4⟩ | ⟨h1, q2, q3, q4, q5⟩ | ⟨h1, _⟩ <;> simp only at h1
  · simp only at q2 q3 q4
    subst h1 q2 q3 q4
    rfl
  · subst h1
    simp only at q2 q3 q4 q5
    have e : sv (1, a2, a3, a4) = sg a2 a3 := rfl
    rw [e]
    simp only
    rw [rnz_sg (by omega), rnd_self q2 q3, bnd_in q4 q5]
  · exact absurd h1 h2
theorem sv_zero {a : Nm} (h : a.1 = 0) : sv a = 0 := by unfold sv; rw [if_neg (by omega)]
theorem addv_sv {a b : Nm} (ha : mayP a) (hb : mayP b) (a2 : a.1 ≠ 2) (b2 : b.1 ≠ 2) (up : Bool) (i j : Nat) (f : Int) (hi : f = a.2.2.2 - i) (hj : f = b.2.2.2 - j) (hf : f = min a.2.2.2 b.2.2.2) : rnz (sv a * 2 ^ i + sv b * 2 ^ j) f up = addv a b up := by
  have ha' := ha
  rcases ha with ⟨h1, _⟩ | ⟨h1, _⟩ | ⟨h1, _⟩
  · unfold addv
    rw [if_neg (fun h => a2 h.1), sv_zero h1, Int.zero_mul, Int.zero_add, hj, rnz_scale, show b.2.2.2 - (j : Int) + j = b.2.2.2 by omega, rnz_sv hb b2]
    by_cases z : b.1 = 0
    · rw [if_pos (.inr z)]
      rcases hb with ⟨g1, g2, g3, g4⟩ | ⟨g1, _⟩ | ⟨g1, _⟩
      · rcases ha' with ⟨_, k2, k3, k4⟩ | ⟨k1, _⟩ | ⟨k1, _⟩
        · obtain ⟨a1, a2, a3, a4⟩ := a
          obtain ⟨b1, b2, b3, b4⟩ := b
          simp only at h1 k2 k3 k4 g1 g2 g3 g4
          subst h1 k2 k3 k4 g1 g2 g3 g4
          rfl
        · omega
        · omega
      · omega
      · omega
    · rw [if_neg (by omega), if_pos (.inr h1)]
  · rcases hb with ⟨g1, _⟩ | ⟨g1, _⟩ | ⟨g1, _⟩
    · unfold addv
      rw [if_neg (fun h => a2 h.1), sv_zero g1, Int.zero_mul, Int.add_zero, hi, rnz_scale, show a.2.2.2 - (i : Int) + i = a.2.2.2 by omega, rnz_sv ha' a2, if_pos (.inr g1)]
    · rw [addv_fin h1 g1, hf]
      unfold exs sv
      rw [if_pos h1, if_pos g1]
      rw [show (a.2.2.2 - min a.2.2.2 b.2.2.2).toNat = i by omega, show (b.2.2.2 - min a.2.2.2 b.2.2.2).toNat = j by omega]
    · exact absurd g1 b2
  · exact absurd h1 a2
theorem add6_ev (a1 : Int) (a2 : Bool) (a3 a4 b1 : Int) (b2 : Bool) (b3 b4 : Int) (up : Bool) (ha : a3 < 18446744073709551616) (hb : b3 < 18446744073709551616)
    (fa : -1500 ≤ (fairv (a1, a2, a3, a4)).2.2.2 ∧ (fairv (a1, a2, a3, a4)).2.2.2 ≤ 1500) (fb : -1500 ≤ (fairv (b1, b2, b3, b4)).2.2.2 ∧ (fairv (b1, b2, b3, b4)).2.2.2 ≤ 1500) :
    ∃ K, ∀ k, K ≤ k → pelorusref06_Add.f k a1 a2 a3 a4 b1 b2 b3 b4 up = some (addv (fairv (a1, a2, a3, a4)) (fairv (b1, b2, b3, b4)) up) := by
  have key : ∀ a b : Nm, mayP a → mayP b → (-1500 ≤ a.2.2.2 ∧ a.2.2.2 ≤ 1500) → (-1500 ≤ b.2.2.2 ∧ b.2.2.2 ≤ 1500) → ∃ K, ∀ k, K ≤ k → (if a.1 = 2 then (if b.1 = 2 then (pelorusref06_Add.j0 k up (a.2.1 != b.2.1) a.1 a.2.1 a.2.2.1 a.2.2.2 b.1 b.2.1 b.2.2.1 b.2.2.2) else (pelorusref06_Add.j0 k up false a.1 a.2.1 a.2.2.1 a.2.2.2 b.1 b.2.1 b.2.2.1 b.2.2.2)) else (pelorusref06_Add.j0 k up false a.1 a.2.1 a.2.2.1 a.2.2.2 b.1 b.2.1 b.2.2.1 b.2.2.2)) = some (addv a b up) := by
    intro a b ma mb fa fb
    by_cases za : a.1 = 2
    · refine ⟨1, fun k hk => ?_⟩
      obtain ⟨k, rfl⟩ : ∃ m, k = m + 1 := ⟨k - 1, by omega⟩
      unfold addv
      by_cases zb : b.1 = 2
      · simp only [za, zb, if_true, pelorusref06_Add.j0, true_and, bne_iff_ne, ne_eq]
        by_cases hn : a.2.1 = b.2.1
        · rw [if_neg (by simpa using hn), if_neg (by simpa using hn), if_pos (by simp), ← za]
        · rw [if_pos (by simpa using hn), if_pos (by simpa using hn)]; rfl
      · simp only [za, zb, if_true, if_false, pelorusref06_Add.j0, Bool.false_eq_true]
        rw [if_neg (by simp), if_pos (by simp), ← za]
    by_cases zb : b.1 = 2
    · refine ⟨1, fun k hk => ?_⟩
      obtain ⟨k, rfl⟩ : ∃ m, k = m + 1 := ⟨k - 1, by omega⟩
      unfold addv
      simp only [za, zb, if_true, if_false, pelorusref06_Add.j0, Bool.false_eq_true]
      rw [if_neg (by simp), if_neg (by simp [za]), if_pos (by simp), ← zb]
    obtain ⟨i, j, f, hi, hj, hf, bi, bj⟩ : ∃ (i j : Nat) (f : Int), f = a.2.2.2 - i ∧ f = b.2.2.2 - j ∧ f = min a.2.2.2 b.2.2.2 ∧ i ≤ 3000 ∧ j ≤ 3000 := ⟨(a.2.2.2 - min a.2.2.2 b.2.2.2).toNat, (b.2.2.2 - min a.2.2.2 b.2.2.2).toNat, min a.2.2.2 b.2.2.2, by omega, by omega, rfl, by omega, by omega⟩
    obtain ⟨p, hp, pa0, pa1, K1, h1⟩ := ex_ev ma za
    obtain ⟨q, hq, qb0, qb1, K2, h2⟩ := ex_ev mb zb
    have hp := hp i
    have hq := hq j
    rw [← hi] at hp
    rw [← hj] at hq
    have bd : ∀ (s : Int) (i : Nat), i ≤ 3000 → -18446744073709551616 < s → s < 18446744073709551616 → -(2 ^ 3064) < s * 2 ^ i ∧ s * 2 ^ i < 2 ^ 3064 := fun s i hi h0 h1 => by
      have pi := p2_pos i
      have m := p2_mono (show 64 + i ≤ 3064 by omega)
      rw [p2_add, p64] at m
      have a1 := mul_lt_p i h1
      have a2 := mul_lt_p i h0
      rw [Int.neg_mul] at a2
      omega
    have ba := bd _ _ bi pa0 pa1
    have bb := bd _ _ bj qb0 qb1
    obtain ⟨d, hd, K3, h3⟩ := two_ev hp hq 3064 (by omega) (bl_abs ba.1 ba.2) (bl_abs bb.1 bb.2) (by omega) (by omega)
    have e65 : (2 : Int) ^ 3065 = 2 * 2 ^ 3064 := p2_succ 3064
    have bs := bl_abs (s := sv a * 2 ^ i + sv b * 2 ^ j) (n := 3065) (by omega) (by omega)
    obtain ⟨K4, h4⟩ := round_ev hd up (by omega) (by omega) (by omega)
    rw [addv_sv ma mb za zb up i j f hi hj hf] at h4
    refine ⟨K1 + K2 + K3 + K4 + 1, fun k hk => ?_⟩
    obtain ⟨k, rfl⟩ : ∃ m, k = m + 1 := ⟨k - 1, by omega⟩
    rw [if_neg za]
    simp only [pelorusref06_Add.j0, Bool.false_eq_true, if_false, if_neg za, if_neg zb]
    rw [h1 k (by omega), Option.bind_some, h2 k (by omega), Option.bind_some, h3 k (by omega), Option.bind_some, h4 k (by omega), Option.bind_some]
  obtain ⟨K, hK⟩ := key _ _ (fairv_may (a1, a2, a3, a4)) (fairv_may (b1, b2, b3, b4)) fa fb
  refine ⟨K, fun k hk => ?_⟩
  unfold pelorusref06_Add.f
  rw [fair6_eq a1 a2 a3 a4 ha, Option.bind_some, fair6_eq b1 b2 b3 b4 hb, Option.bind_some]
  exact hK k hk
theorem mul6_ev (a1 : Int) (a2 : Bool) (a3 a4 b1 : Int) (b2 : Bool) (b3 b4 : Int) (up : Bool) (ha : a3 < 18446744073709551616) (hb : b3 < 18446744073709551616) :
    ∃ K, ∀ k, K ≤ k → pelorusref06_Mul.f k a1 a2 a3 a4 b1 b2 b3 b4 up = some (mulv (fairv (a1, a2, a3, a4)) (fairv (b1, b2, b3, b4)) up) := by
  have key : ∀ a b : Nm, mayP a → mayP b → ∃ K, ∀ k, K ≤ k → (if a.1 = 0 then (pelorusref06_Mul.j0 k up true a.1 a.2.1 a.2.2.1 a.2.2.2 b.1 b.2.1 b.2.2.1 b.2.2.2) else (pelorusref06_Mul.j0 k up (b.1 == 0) a.1 a.2.1 a.2.2.1 a.2.2.2 b.1 b.2.1 b.2.2.1 b.2.2.2)) = some (mulv a b up) := by
    intro a b ma mb
    by_cases za : a.1 = 0
    · refine ⟨2, fun k hk => ?_⟩
      obtain ⟨k, rfl⟩ : ∃ m, k = m + 2 := ⟨k - 2, by omega⟩
      unfold mulv
      rw [if_pos za, if_pos (.inl za)]
      rfl
    by_cases zb : b.1 = 0
    · refine ⟨2, fun k hk => ?_⟩
      obtain ⟨k, rfl⟩ : ∃ m, k = m + 2 := ⟨k - 2, by omega⟩
      unfold mulv
      rw [if_neg za, if_pos (.inr zb), zb]
      rfl
    have zb' : (b.1 == 0) = false := by simpa using zb
    by_cases ya : a.1 = 2
    · refine ⟨2, fun k hk => ?_⟩
      obtain ⟨k, rfl⟩ : ∃ m, k = m + 2 := ⟨k - 2, by omega⟩
      unfold mulv
      rw [if_neg za, if_neg (by omega), if_pos (.inl ya)]
      simp only [zb', pelorusref06_Mul.j0, pelorusref06_Mul.j1, Bool.false_eq_true, if_false, ya, if_true]
      rfl
    by_cases yb : b.1 = 2
    · refine ⟨2, fun k hk => ?_⟩
      obtain ⟨k, rfl⟩ : ∃ m, k = m + 2 := ⟨k - 2, by omega⟩
      unfold mulv
      rw [if_neg za, if_neg (by omega), if_pos (.inr yb)]
      simp only [zb', pelorusref06_Mul.j0, pelorusref06_Mul.j1, Bool.false_eq_true, if_false, ya, yb, if_true, show ((2 : Int) == 2) = true from rfl]
      rfl
    have xa : a.1 = 1 := by rcases ma with ⟨h, _⟩ | ⟨h, _⟩ | ⟨h, _⟩ <;> omega
    have xb : b.1 = 1 := by rcases mb with ⟨h, _⟩ | ⟨h, _⟩ | ⟨h, _⟩ <;> omega
    obtain ⟨i0, i1, i2, i3⟩ := may_fin ma xa
    obtain ⟨j0, j1, j2, j3⟩ := may_fin mb xb
    obtain ⟨p, hp, K1, h1⟩ := exact_ev a.2.1 i0 i1 i2 i3
    obtain ⟨q, hq, K2, h2⟩ := exact_ev b.2.1 j0 j1 j2 j3
    have bl1 := bl_le (n := a.2.2.1) (m := 64) (by rw [p64]; exact i1)
    have bl2 := bl_le (n := b.2.2.1) (m := 64) (by rw [p64]; exact j1)
    obtain ⟨d, hd, K3, h3⟩ := mul3_ev hp hq (by rw [sg_abs _ (by omega)]; omega) (by rw [sg_abs _ (by omega)]; omega) (by omega) (by omega) (by omega) (by omega)
    have es : sg a.2.1 a.2.2.1 * sg b.2.1 b.2.2.1 = sg (a.2.1 != b.2.1) (a.2.2.1 * b.2.2.1) := by
      unfold sg
      cases a.2.1 <;> cases b.2.1 <;> simp [Int.neg_mul, Int.mul_neg]
    have m0 : 0 < a.2.2.1 * b.2.2.1 := Int.mul_pos (by omega) (by omega)
    have m1 : a.2.2.1 * b.2.2.1 ≤ 18446744073709551615 * 18446744073709551615 := Int.mul_le_mul (by omega) (by omega) (by omega) (by decide)
    have b128 := bl_le (n := a.2.2.1 * b.2.2.1) (m := 128) (by
      have : (2 : Int) ^ 128 = 18446744073709551616 * 18446744073709551616 := by decide
      omega)
    rw [es] at hd
    obtain ⟨K4, h4⟩ := round_ev hd up (by rw [sg_abs _ (by omega)]; omega) (by omega) (by omega)
    rw [rnz_sg m0, ← mulv_fin xa xb] at h4
    refine ⟨K1 + K2 + K3 + K4 + 2, fun k hk => ?_⟩
    obtain ⟨k, rfl⟩ : ∃ m, k = m + 2 := ⟨k - 2, by omega⟩
    rw [if_neg za, zb']
    simp only [pelorusref06_Mul.j0, pelorusref06_Mul.j1, Bool.false_eq_true, if_false, if_neg ya, show (b.1 == 2) = false by simpa using yb]
    rw [xa, xb, h1 k (by omega), Option.bind_some, h2 k (by omega), Option.bind_some, h3 k (by omega), Option.bind_some, h4 k (by omega), Option.bind_some]
  obtain ⟨K, hK⟩ := key _ _ (fairv_may (a1, a2, a3, a4)) (fairv_may (b1, b2, b3, b4))
  refine ⟨K, fun k hk => ?_⟩
  unfold pelorusref06_Mul.f
  rw [fair6_eq a1 a2 a3 a4 ha, Option.bind_some, fair6_eq b1 b2 b3 b4 hb, Option.bind_some]
  exact hK k hk
theorem of2_ev : ∃ K, ∀ k, K ≤ k → pelorusref05_Of.f k 2 = some (ofv 2) := by
  obtain ⟨K1, h1⟩ := make2_ev false [2, 0] (by simp [U]) (by simp)
  rw [show val [2, 0] = 2 by simp] at h1
  obtain ⟨d, hd, K2, h2⟩ := make3_ev false (lim 2) 0 (U_lim (by decide)) (by have := len_lim (v := 2) (by decide) 2 (by decide); omega) (by rw [val_lim (by decide)]; decide +kernel) (by decide) (by rw [val_lim (by decide)]; decide +kernel)
  rw [val_lim (by decide)] at hd
  obtain ⟨K3, h3⟩ := round_ev hd true (by decide +kernel) (by decide) (by decide)
  have e : rnz (sg false 2) 0 true = ofv 2 := by decide +kernel
  rw [e] at h3
  refine ⟨K1 + K2 + K3, fun k hk => ?_⟩
  unfold pelorusref05_Of.f pelorusref02_From.f
  rw [if_neg (by decide)]
  have w : ([(Int.tmod (IntKind.u64.wrap (2)) 4294967296) % 4294967296, (IntKind.u64.wrap (Int.tdiv (IntKind.u64.wrap (2)) 4294967296)) % 4294967296] : List Int) = [2, 0] := by decide +kernel
  rw [w, show decide ((2 : Int) < 0) = false by decide, h1 k (by omega), Option.bind_some, Option.bind_some]
  simp only [Bool.false_and]
  rw [h2 k (by omega), Option.bind_some, h3 k (by omega), Option.bind_some]
end Go.Proofs.Ythlhogcnfaiphaa.T
