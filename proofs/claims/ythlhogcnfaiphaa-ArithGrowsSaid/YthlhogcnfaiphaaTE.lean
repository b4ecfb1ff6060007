/- What the sums and products of layer 6 compute (third part): they are the exact ones, rounded. -/
import Derived.Test.YthlhogcnfaiphaaPAx2
import Derived.Test.YthlhogcnfaiphaaTD
namespace Go.Proofs.Ythlhogcnfaiphaa.T
set_option linter.unusedVariables false
set_option linter.unusedSimpArgs false
open Go.RowKit Go.Proofs.YthlhogcnfaiphaaW.PrintWords Go.Proofs.YthlhogcnfaiphaaW.PrintMore Go.Proofs.Ythlhogcnfaiphaa.PA

theorem rnz_sg {v : Int} (hv : 0 < v) (n : Bool) (e : Int) (up : Bool) : rnz (sg n v) e up = rnd n v e (up != n) := by
  unfold rnz sg
  cases n
  · simp only [Bool.false_eq_true, if_false]
    rw [if_neg (by omega), decide_eq_false (by omega), Int.natAbs_of_nonneg (by omega)]
  · simp only [if_true]
    rw [if_neg (by omega), decide_eq_true (by omega), Int.natAbs_neg, Int.natAbs_of_nonneg (by omega)]
/-- The sum of two finite ones, of which the first one is not the nearer to nought. -/
theorem add3 (k : Nat) (hk : 6 ≤ k) {am ae bm be : Int} (an bn up : Bool) (a0 : 9223372036854775808 ≤ am) (a1 : am < 18446744073709551616) (b0 : 9223372036854775808 ≤ bm) (b1 : bm < 18446744073709551616) (e0 : -1048576 ≤ be) (e1 : ae ≤ 1048576) (hle : be < ae ∨ be = ae ∧ bm ≤ am) :
    arith_Add.j3 k up 1 an am ae 1 bn bm be = some (rnz (exs (1, an, am, ae) (1, bn, bm, be) be) be up) := by
  obtain ⟨k, rfl⟩ : ∃ i, k = i + 1 := ⟨k - 1, by omega⟩
  obtain ⟨d, hd⟩ : ∃ d : Nat, ae = be + d := ⟨(ae - be).toNat, by omega⟩
  have pd := p2_pos d
  have ex : exs (1, an, am, ae) (1, bn, bm, be) be = sg an am * 2 ^ d + sg bn bm := by
    unfold exs
    simp only [show (ae - be).toNat = d by omega, show (be - be).toNat = 0 by omega, Int.pow_zero, Int.mul_one]
  have ad := mul_le_p d a0
  simp only [arith_Add.j3]
  by_cases h : an = bn
  · subst h
    have vp : 0 < am * 2 ^ d + bm := by omega
    have es : sg an am * 2 ^ d + sg an bm = sg an (am * 2 ^ d + bm) := by
      unfold sg
      cases an
      · simp
      · simp only [if_true]; rw [Int.neg_mul]; omega
    rw [if_pos (by simp), plus_eq k (by omega) _ _ _ _ _ a0 a1 b0 b1 e0 e1 hd, Option.bind_some, ex, es, rnz_sg vp]
  · have hn : bn = !an := by cases an <;> cases bn <;> simp_all
    subst hn
    have es : sg an am * 2 ^ d + sg (!an) bm = sg an (am * 2 ^ d - bm) := by
      unfold sg
      cases an
      · simp only [Bool.not_false, if_true, Bool.false_eq_true, if_false]; omega
      · simp only [if_true, Bool.not_true, Bool.false_eq_true, if_false]; rw [Int.neg_mul]; omega
    rw [if_neg (by simp)]
    have m : 0 < am * 2 ^ d - bm → arith_minus.f k 1 an am ae 1 (!an) bm be up = some (rnz (exs (1, an, am, ae) (1, !an, bm, be) be) be up) := fun hv => by
      rw [minus_eq k (by omega) _ _ _ _ _ a0 a1 b0 b1 e0 e1 hd hv, ex, es, rnz_sg hv]
    by_cases h2 : ae = be
    · have d0 : d = 0 := by omega
      subst d0
      simp only [Int.pow_zero, Int.mul_one] at m es
      rw [if_pos h2]
      by_cases h3 : am = bm
      · rw [if_pos h3, ex, Int.pow_zero, Int.mul_one, es, h3, Int.sub_self]
        unfold rnz sg
        simp
      · rw [if_neg h3, m (by omega), Option.bind_some]
    · rw [if_neg h2, m, Option.bind_some]
      have := p2_mono (i := 1) (j := d) (by omega)
      rw [Int.pow_one] at this
      have := Int.mul_le_mul_of_nonneg_left this (show 0 ≤ am by omega)
      omega
theorem addv_fin {a b : Nm} (ha : a.1 = 1) (hb : b.1 = 1) (up : Bool) : addv a b up = rnz (exs a b (min a.2.2.2 b.2.2.2)) (min a.2.2.2 b.2.2.2) up := by
  unfold addv
  rw [ha, hb]
  simp
theorem mulv_fin {a b : Nm} (ha : a.1 = 1) (hb : b.1 = 1) (up : Bool) : mulv a b up = rnd (a.2.1 != b.2.1) (a.2.2.1 * b.2.2.1) (a.2.2.2 + b.2.2.2) (up != (a.2.1 != b.2.1)) := by
  unfold mulv
  rw [ha, hb]
  simp
theorem add_eq (k : Nat) (hk : 9 ≤ k) (a1 : Int) (a2 : Bool) (a3 a4 b1 : Int) (b2 : Bool) (b3 b4 : Int) (up : Bool) (ha : a3 < 18446744073709551616) (hb : b3 < 18446744073709551616) :
    arith_Add.f k a1 a2 a3 a4 b1 b2 b3 b4 up = some (addv (fairv (a1, a2, a3, a4)) (fairv (b1, b2, b3, b4)) up) := by
  obtain ⟨k, rfl⟩ : ∃ i, k = i + 3 := ⟨k - 3, by omega⟩
  unfold arith_Add.f
  rw [afair_eq a1 a2 a3 a4 ha, Option.bind_some, afair_eq b1 b2 b3 b4 hb, Option.bind_some]
  have ma := fairv_may (a1, a2, a3, a4)
  have mb := fairv_may (b1, b2, b3, b4)
  generalize fairv (a1, a2, a3, a4) = a at ma
  generalize fairv (b1, b2, b3, b4) = b at mb
  clear ha hb a1 a2 a3 a4 b1 b2 b3 b4
  obtain ⟨a1, a2, a3, a4⟩ := a
  obtain ⟨b1, b2, b3, b4⟩ := b
  rcases ma with ⟨h1, h2, h3, h4⟩ | ⟨h1, h2, h3, h4, h5⟩ | ⟨h1, h2, h3⟩ <;> rcases mb with ⟨g1, g2, g3, g4⟩ | ⟨g1, g2, g3, g4, g5⟩ | ⟨g1, g2, g3⟩ <;> simp only at h1 g1 <;> subst h1 g1
  case inr.inl.inr.inl =>
    simp only at h2 h3 h4 h5 g2 g3 g4 g5
    have c2 : ¬ ((1 : Int) = 2) := by decide
    have c0 : ¬ ((1 : Int) = 0) := by decide
    rw [addv_fin rfl rfl]
    simp only [if_neg c2, arith_Add.j0, arith_Add.j1, Bool.false_eq_true, if_false, show ((1 : Int) == 0) = false from rfl, if_neg c0]
    by_cases z : b4 > a4
    · rw [if_pos z]
      simp only [arith_Add.j2, if_true]
      rw [add3 k (by omega) _ _ _ g2 g3 h2 h3 (by omega) (by omega) (.inl z), exs_comm, Int.min_eq_left (by omega)]
    · rw [if_neg z]
      by_cases z2 : b4 = a4
      · rw [if_pos z2]
        by_cases z3 : b3 > a3
        · simp only [arith_Add.j2, decide_eq_true z3, if_true]
          rw [add3 k (by omega) _ _ _ g2 g3 h2 h3 (by omega) (by omega) (.inr ⟨z2.symm, by omega⟩), exs_comm, Int.min_eq_left (by omega)]
        · simp only [arith_Add.j2, decide_eq_false z3, Bool.false_eq_true, if_false]
          rw [add3 k (by omega) _ _ _ h2 h3 g2 g3 (by omega) (by omega) (.inr ⟨z2, by omega⟩), Int.min_eq_right (by omega)]
      · rw [if_neg z2]
        simp only [arith_Add.j2, Bool.false_eq_true, if_false]
        rw [add3 k (by omega) _ _ _ h2 h3 g2 g3 (by omega) (by omega) (.inl (by omega)), Int.min_eq_right (by omega)]
  all_goals simp only at h2 h3 g2 g3
  all_goals simp [arith_Add.j0, arith_Add.j1, addv, num_Infinite.f]
  all_goals (cases a2 <;> cases b2 <;> simp_all)
/-! products -/
theorem mul64_eq {x y : Int} (x0 : 0 ≤ x) (x1 : x < 18446744073709551616) (y0 : 0 ≤ y) (y1 : y < 18446744073709551616) : bits_Mul64.f x y = some (x * y / 18446744073709551616, x * y % 18446744073709551616) := by
  have bd : ∀ a b : Int, 0 ≤ a → a < 4294967296 → 0 ≤ b → b < 4294967296 → 0 ≤ a * b ∧ a * b ≤ 18446744065119617025 := fun a b ha ha' hb hb' => mul_bound ⟨ha, ha'⟩ ⟨hb, hb'⟩
  unfold bits_Mul64.f
  rw [and_low x0 x1, and_low y0 y1]
  obtain ⟨xh, xl, hx, xh0, xh1, xl0, xl1⟩ : ∃ xh xl : Int, x = xh * 4294967296 + xl ∧ 0 ≤ xh ∧ xh < 4294967296 ∧ 0 ≤ xl ∧ xl < 4294967296 := ⟨x / 4294967296, x % 4294967296, by omega, by omega, by omega, by omega, by omega⟩
  obtain ⟨yh, yl, hy, yh0, yh1, yl0, yl1⟩ : ∃ yh yl : Int, y = yh * 4294967296 + yl ∧ 0 ≤ yh ∧ yh < 4294967296 ∧ 0 ≤ yl ∧ yl < 4294967296 := ⟨y / 4294967296, y % 4294967296, by omega, by omega, by omega, by omega, by omega⟩
  rw [show x / 4294967296 = xh by omega, show x % 4294967296 = xl by omega, show y / 4294967296 = yh by omega, show y % 4294967296 = yl by omega]
  have hp : x * y = xh * yh * 18446744073709551616 + (xh * yl + xl * yh) * 4294967296 + xl * yl := by rw [hx, hy]; grind
  obtain ⟨p1, p2⟩ := bd xh yh xh0 xh1 yh0 yh1
  obtain ⟨p3, p4⟩ := bd xh yl xh0 xh1 yl0 yl1
  obtain ⟨p5, p6⟩ := bd xl yh xl0 xl1 yh0 yh1
  obtain ⟨p7, p8⟩ := bd xl yl xl0 xl1 yl0 yl1
  rw [hp]
  generalize xh * yh = A at *
  generalize xh * yl = B at *
  generalize xl * yh = C at *
  generalize xl * yl = D at *
  clear hp hx hy x0 x1 y0 y1 xh0 xh1 xl0 xl1 yh0 yh1 yl0 yl1 bd
  rw [u64w (x := D) (by omega) (by omega), u64w (x := B) (by omega) (by omega), u64w (x := B + D / 4294967296) (by omega) (by omega), u64w (x := C) (by omega) (by omega), u64w (x := A) (by omega) (by omega), and_low (x := B + D / 4294967296) (by omega) (by omega)]
  rw [u64w (x := A + (B + D / 4294967296) / 4294967296) (by omega) (by omega), u64w (x := (B + D / 4294967296) % 4294967296 + C) (by omega) (by omega), u64w (by omega) (by omega), wrap_u64]
  congr 2
  omega
theorem mul_eq (k : Nat) (hk : 4 ≤ k) (a1 : Int) (a2 : Bool) (a3 a4 b1 : Int) (b2 : Bool) (b3 b4 : Int) (up : Bool) (ha : a3 < 18446744073709551616) (hb : b3 < 18446744073709551616) :
    arith_Mul.f k a1 a2 a3 a4 b1 b2 b3 b4 up = some (mulv (fairv (a1, a2, a3, a4)) (fairv (b1, b2, b3, b4)) up) := by
  obtain ⟨k, rfl⟩ : ∃ i, k = i + 1 := ⟨k - 1, by omega⟩
  unfold arith_Mul.f
  rw [afair_eq a1 a2 a3 a4 ha, Option.bind_some, afair_eq b1 b2 b3 b4 hb, Option.bind_some]
  have ma := fairv_may (a1, a2, a3, a4)
  have mb := fairv_may (b1, b2, b3, b4)
  generalize fairv (a1, a2, a3, a4) = a at ma
  generalize fairv (b1, b2, b3, b4) = b at mb
  clear ha hb a1 a2 a3 a4 b1 b2 b3 b4
  obtain ⟨a1, a2, a3, a4⟩ := a
  obtain ⟨b1, b2, b3, b4⟩ := b
  rcases ma with ⟨h1, h2, h3, h4⟩ | ⟨h1, h2, h3, h4, h5⟩ | ⟨h1, h2, h3⟩ <;> rcases mb with ⟨g1, g2, g3, g4⟩ | ⟨g1, g2, g3, g4, g5⟩ | ⟨g1, g2, g3⟩ <;> simp only at h1 g1 <;> subst h1 g1
  case inr.inl.inr.inl =>
    simp only at h2 h3 h4 h5 g2 g3 g4 g5
    have c2 : ¬ ((1 : Int) = 2) := by decide
    have c0 : ¬ ((1 : Int) = 0) := by decide
    rw [mulv_fin rfl rfl]
    simp only [if_neg c2, arith_Mul.j0, Bool.false_eq_true, if_false, show ((1 : Int) == 0) = false from rfl, if_neg c0]
    rw [mul64_eq (by omega) h3 (by omega) g3, Option.bind_some]
    have q1 : 9223372036854775808 * 9223372036854775808 ≤ a3 * b3 := Int.mul_le_mul h2 g2 (by decide) (by omega)
    have q2 : a3 * b3 ≤ 18446744073709551615 * 18446744073709551615 := Int.mul_le_mul (by omega) (by omega) (by omega) (by decide)
    generalize a3 * b3 = P at q1 q2
    have w1 : wrap64 (a4 + b4) = a4 + b4 := w64 (by omega) (by omega)
    have w2 : wrap64 (a4 + b4 + 64) = a4 + b4 + 64 := w64 (by omega) (by omega)
    have w3 : wrap64 (a4 + b4 + 64 - 1) = a4 + b4 + (63 : Nat) := by rw [w64 (by omega) (by omega)]; omega
    simp only [w1, w2, w3]
    by_cases z : P / 18446744073709551616 < 9223372036854775808
    · rw [if_pos z]
      have o := (or_sum (h := P / 18446744073709551616) (l := P % 18446744073709551616 / 9223372036854775808) (b := 1) (j := 63) rfl (by omega) (by rw [p63]; exact z) (by omega) (by rw [Int.pow_one]; omega)).1
      rw [Int.pow_one] at o
      rw [u64w (by omega) (by omega), o, wrap_u64, grw_eq k (by omega) _ _ _ _ _ (by omega) (by omega) (by omega) (by omega), Option.bind_some]
      congr 1
      refine (rnd_fit (div_fit (d := 63) (by omega) (by omega) (by rw [p63]; omega) ?_) _ _).symm
      rw [p63, bne_iff_ne]
      omega
    · rw [if_neg z, grw_eq k (by omega) _ _ _ _ _ (by omega) (by omega) (by omega) (by omega), Option.bind_some]
      congr 1
      refine (rnd_fit (e := a4 + b4) (div_fit (d := 64) (by omega) (by omega) (by rw [p64]) ?_) _ _).symm
      rw [p64, bne_iff_ne]
  all_goals simp only at h2 h3 g2 g3
  all_goals simp [arith_Mul.j0, mulv, num_Infinite.f]
/-! whole numbers, and the next one -/
/-- A whole number. -/
def ofv (a : Int) : Nm := if a = 0 then (0, false, 0, 0) else (1, decide (a < 0), (a.natAbs : Int) * 2 ^ (64 - bl a.natAbs).toNat, bl a.natAbs - 64)
theorem of_eq (k : Nat) (hk : 1 ≤ k) (a : Int) (h0 : -9223372036854775808 ≤ a) (h1 : a ≤ 9223372036854775807) : num_Of.f k a = some (ofv a) := by
  have key : ∀ u : Int, u = a.natAbs → (bits_LeadingZeros64.f k u).bind (fun t => if u = 0 then some (0, false, 0, 0) else if 0 ≤ t then some ((1 : Int), decide (a < 0), shl .u64 u t, wrap64 (-t)) else none) = some (ofv a) := by
    intro u hu
    rw [lz64 (by omega) (by omega) k hk, Option.bind_some]
    unfold ofv
    by_cases z : a = 0
    · rw [if_pos (by omega), if_pos z]
    · rw [if_neg (by omega), if_neg z, ← hu]
      have b0 := bl_pos (n := u) (by omega)
      have b1 := bl_le (n := u) (m := 64) (by rw [p64]; omega)
      have b2 := bl_lt (n := u) (by omega)
      obtain ⟨b, hb⟩ : ∃ b : Nat, 64 - bl u = b := ⟨(64 - bl u).toNat, by omega⟩
      have c := mul_lt_p b b2
      rw [← p2_add, show (bl u).toNat + b = 64 by omega, p64] at c
      have c0 := Int.mul_nonneg (show 0 ≤ u by omega) (show (0 : Int) ≤ 2 ^ b by have := p2_pos b; omega)
      rw [hb, if_pos (by omega), shl64 (by omega), Int.emod_eq_of_lt c0 c, w64 (by omega) (by omega), Int.toNat_natCast, show -(b : Int) = bl u - 64 by omega]
  unfold num_Of.f
  by_cases z : a < 0
  · have e : IntKind.u64.wrap (-(IntKind.u64.wrap a)) = a.natAbs := by rw [wrap_u64, wrap_u64]; omega
    rw [if_pos z]
    exact key _ e
  · have e : IntKind.u64.wrap a = a.natAbs := by rw [wrap_u64]; omega
    rw [if_neg z]
    exact key _ e
/-- The next number above, or below, of one that may be. -/
def nextv (n : Nm) (up : Bool) : Nm :=
  if n.1 = 0 then (1, !up, 9223372036854775808, -1048576)
  else if n.1 = 2 then (if n.2.1 = up then (1, n.2.1, 18446744073709551615, 1048576) else n)
  else if n.2.1 ≠ up then grw n.2.1 n.2.2.1 n.2.2.2 true true
  else if n.2.2.1 = 9223372036854775808 then bnd n.2.1 18446744073709551615 (n.2.2.2 - 1) false
  else (n.1, n.2.1, n.2.2.1 - 1, n.2.2.2)
theorem next_eq (k : Nat) (hk : 4 ≤ k) (a1 : Int) (a2 : Bool) (a3 a4 : Int) (up : Bool) (ha : a3 < 18446744073709551616) : num_Next.f k a1 a2 a3 a4 up = some (nextv (fairv (a1, a2, a3, a4)) up) := by
  obtain ⟨k, rfl⟩ : ∃ i, k = i + 1 := ⟨k - 1, by omega⟩
  unfold num_Next.f
  rw [nfair_eq a1 a2 a3 a4 ha, Option.bind_some]
  have ma := fairv_may (a1, a2, a3, a4)
  generalize fairv (a1, a2, a3, a4) = a at ma
  clear ha a1 a2 a3 a4
  obtain ⟨a1, a2, a3, a4⟩ := a
  unfold nextv
  rcases ma with ⟨h1, h2, h3, h4⟩ | ⟨h1, h2, h3, h4, h5⟩ | ⟨h1, h2, h3⟩ <;> simp only at h1 <;> subst h1
  · rfl
  · simp only at h2 h3 h4 h5
    have c2 : ¬ ((1 : Int) = 2) := by decide
    have c0 : ¬ ((1 : Int) = 0) := by decide
    simp only [if_neg c2, if_neg c0, num_Next.j0, Bool.false_eq_true, if_false, bne_iff_ne]
    by_cases z : a2 ≠ up
    · rw [if_pos z, if_pos z, grw_eq k (by omega) _ _ _ _ _ h2 h3 (by omega) (by omega), Option.bind_some]
    · rw [if_neg z, if_neg z]
      by_cases z2 : a3 = 9223372036854775808
      · rw [if_pos z2, if_pos z2, w64 (by omega) (by omega), bnd_eq k (by omega), Option.bind_some]
      · rw [if_neg z2, if_neg z2, u64w (by omega) (by omega)]
  · simp only at h2 h3
    subst h2 h3
    simp only [show ¬ ((2 : Int) = 0) by decide, if_false, if_true, num_Next.j0, num_huge.f, Option.bind_some]
    by_cases z : a2 = up
    · rw [if_pos z, if_pos (by simpa using z)]
    · rw [if_neg z, if_neg (by simpa using z)]
end Go.Proofs.Ythlhogcnfaiphaa.T
