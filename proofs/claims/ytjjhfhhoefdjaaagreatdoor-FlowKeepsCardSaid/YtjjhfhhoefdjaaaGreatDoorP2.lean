/- Plain laws: what the functions answer, without the program's memory (part 2). No condition. -/
import Derived.Test.YtjjhfhhoefdjaaaGreatDoorP1
import Derived.KernelRfl
import Derived.DataShut
import Derived.Laws.BitsLemmas
import Derived.Lib.EndianBits
namespace Go.Proofs.YtjjhfhhoefdjaaaGreatDoor.Rf.Pl
open Go Go.Proofs
set_option linter.unusedVariables false
set_option linter.unusedSimpArgs false
theorem sub64R {x y b : Int} (x0 : 0 ≤ x) (y0 : 0 ≤ y) (y1 : y < 18446744073709551616) (b0 : 0 ≤ b) (b1 : b ≤ 1) : sub64F (x, y, b, ()) = some ((x - y - b) % 18446744073709551616, (if x < y + b then 1 else 0), ()) := by
  simp only [sub64F]
  rw [if_pos ⟨x0, y0, y1, b0, b1⟩]
/-- What the words of a difference come to, moved up: the tail of minus. -/
theorem minus_tail (k : Nat) (an away cut : Bool) {v' e' x1 x0 E r : Int} {d : Nat} (p0 : 0 < x1) (p1 : x1 < 18446744073709551616) (p2 : 0 ≤ x0) (p3 : x0 < 18446744073709551616) (pv : v' * 18446744073709551616 = (x1 * 18446744073709551616 + x0) * 2 ^ d + r) (hr0 : 0 ≤ r) (hr1 : r < 2 ^ d) (hcr : cut = true ↔ r ≠ 0) (pe : E = e' + d) (pE0 : -4194304 ≤ E) (pE1 : E ≤ 4194304) :
    (bits_LeadingZeros64 k x1).bind (fun r4 =>
     (bif (decide (r4.1 > 0)) then
      if r4.1 < 0 then none else
      if (IntKind.i64.wrap (64 - r4.1)) < 0 then none else
      if r4.1 < 0 then none else
      bif cut then
       (num_Grow k an (IntKind.u64.wrap (BitVec.toNat (BitVec.ofInt IntKind.u64.bits (IntKind.u64.wrap (x1 * 2 ^ min (Int.toNat r4.1) IntKind.u64.bits)) ||| BitVec.ofInt IntKind.u64.bits (Int.fdiv x0 (2 ^ min (Int.toNat (IntKind.i64.wrap (64 - r4.1))) IntKind.u64.bits))))) (IntKind.i64.wrap (E - r4.1)) true away).bind fun r10 =>
       some (r10.1, ())
      else
       (num_Grow k an (IntKind.u64.wrap (BitVec.toNat (BitVec.ofInt IntKind.u64.bits (IntKind.u64.wrap (x1 * 2 ^ min (Int.toNat r4.1) IntKind.u64.bits)) ||| BitVec.ofInt IntKind.u64.bits (Int.fdiv x0 (2 ^ min (Int.toNat (IntKind.i64.wrap (64 - r4.1))) IntKind.u64.bits))))) (IntKind.i64.wrap (E - r4.1)) ((IntKind.u64.wrap (x0 * 2 ^ min (Int.toNat r4.1) IntKind.u64.bits)) != 0) away).bind fun r11 =>
       some (r11.1, ())
     else
      bif cut then
       (num_Grow k an x1 E true away).bind fun r12 =>
       some (r12.1, ())
      else
       (num_Grow k an x1 E (x0 != 0) away).bind fun r13 =>
       some (r13.1, ()) : Option (HL [TNm]))) = some (rnd an v' e' away, ()) := by
  have b0 := bl_pos p0
  have b1 := bl_le (n := x1) (m := 64) (by rw [p64]; exact p1)
  obtain ⟨j, hj⟩ : ∃ j : Nat, bl x1 = j := ⟨(bl x1).toNat, by omega⟩
  obtain ⟨b, hb⟩ : ∃ b : Nat, b + j = 64 := ⟨64 - j, by omega⟩
  obtain ⟨n1, n2, n3, n4, n5, n6⟩ := norm128 hb p0 hj p2 p3
  have f : ∀ cc : Bool, (cc = true ↔ (x0 * 2 ^ b) % 18446744073709551616 ≠ 0 ∨ r ≠ 0) → num_Grow k an (x1 * 2 ^ b + x0 / 2 ^ j) (E - b) cc away = some (rnd an v' e' away, ()) := fun cc h => by
    rw [grw_eq k _ _ _ _ _ n1 n2 (by omega) (by omega), rnd_fit (diff_fit n1 n2 pv hr0 hr1 n3 n5 n4 (show e' - b = (E - b) - d by omega) h)]
  rw [lz64 k (by omega) p1, Option.bind_some, hj, show (64 : Int) - (j : Int) = (b : Int) by omega]
  have s3 : IntKind.i64.wrap (64 - (b : Int)) = (j : Int) := by rw [w64 (by omega) (by omega)]; omega
  have s5 : IntKind.i64.wrap (E - (b : Int)) = E - b := w64 (by omega) (by omega)
  have s1 : IntKind.u64.wrap (x1 * 2 ^ min (Int.toNat (b : Int)) IntKind.u64.bits) = (x1 * 2 ^ b) % 18446744073709551616 := shlR (by omega)
  have s2 : IntKind.u64.wrap (x0 * 2 ^ min (Int.toNat (b : Int)) IntKind.u64.bits) = (x0 * 2 ^ b) % 18446744073709551616 := shlR (by omega)
  have s4 : Int.fdiv x0 (2 ^ min (Int.toNat (j : Int)) IntKind.u64.bits) = x0 / 2 ^ j := shrR (by omega)
  simp only [s3, s5, orR, s1, s2, s4, n6]
  by_cases z : (b : Int) > 0
  · rw [cond_t z, if_neg (show ¬ (b : Int) < 0 by omega), if_neg (show ¬ (j : Int) < 0 by omega), if_neg (show ¬ (b : Int) < 0 by omega)]
    cases hcut : cut
    · have := f ((x0 * 2 ^ b) % 18446744073709551616 != 0) (by rw [← hcr, hcut]; simp)
      rw [cond_false]
      erw [this]; rfl
    · have := f true (by rw [← hcr, hcut]; simp)
      rw [cond_true, this]; rfl
  · have zb : b = 0 := by omega
    subst zb
    have zj : j = 64 := by omega
    subst zj
    have e1 : x0 / 2 ^ 64 = 0 := by rw [p64]; omega
    rw [e1, Int.pow_zero, Int.mul_one, Int.mul_one, Int.add_zero, Int.emod_eq_of_lt p2 p3, show E - ((0 : Nat) : Int) = E by omega] at f
    rw [cond_f z]
    cases hcut : cut
    · have := f (x0 != 0) (by rw [← hcr, hcut]; simp)
      rw [cond_false]
      erw [this]; rfl
    · have := f true (by rw [← hcr, hcut]; simp)
      rw [cond_true, this]; rfl
theorem minus_eq (k : Nat) {am ae bm be : Int} (q1 q2 : Int) (an bn up : Bool) {d : Nat} (a0 : 9223372036854775808 ≤ am) (a1 : am < 18446744073709551616) (b0 : 9223372036854775808 ≤ bm) (b1 : bm < 18446744073709551616) (e0 : -1048576 ≤ be) (e1 : ae ≤ 1048576) (hd : ae = be + d) (hv : 0 < am * 2 ^ d - bm) :
    arith_minus k (q1, an, am, ae) (q2, bn, bm, be) up = some (rnd an (am * 2 ^ d - bm) be (up != an), ()) := by
  obtain ⟨hi, lo, cut, hl, i0, i1, l0, l1, hX, hc⟩ := lower_eq k b0 b1 (n := d) (by omega)
  obtain ⟨hh, -⟩ := low_hi (by omega) l0 l1 hX
  have pd := p2_pos d
  have x1 := Int.mul_ediv_add_emod (bm * 18446744073709551616) (2 ^ d)
  have x2 := Int.emod_nonneg (bm * 18446744073709551616) (b := 2 ^ d) (by omega)
  have x3 := Int.emod_lt_of_pos (bm * 18446744073709551616) pd
  rw [← hX] at x1
  have e : IntKind.i64.wrap (ae - be) = (d : Int) := by rw [w64 (by omega) (by omega)]; omega
  -- the 128 bits of the difference, and what is behind them
  obtain ⟨D, r, hD, hr0, hr1, hDv, hcr⟩ : ∃ D r : Int, D = am * 18446744073709551616 - (hi * 18446744073709551616 + lo) - (if cut = true then 1 else 0) ∧ 0 ≤ r ∧ r < 2 ^ d ∧ (am * 2 ^ d - bm) * 18446744073709551616 = D * 2 ^ d + r ∧ (cut = true ↔ r ≠ 0) := by
    have y1 : (am * 2 ^ d - bm) * 18446744073709551616 = (am * 18446744073709551616 - (hi * 18446744073709551616 + lo)) * 2 ^ d - bm * 18446744073709551616 % 2 ^ d := by
      rw [Int.sub_mul, Int.sub_mul, Int.mul_right_comm am, Int.mul_comm _ (2 ^ d)] at *
      have : 2 ^ d * (hi * 18446744073709551616 + lo) = (hi * 18446744073709551616 + lo) * 2 ^ d := Int.mul_comm _ _
      omega
    cases hcut : cut
    · have z : bm * 18446744073709551616 % 2 ^ d = 0 := by
        by_cases z : bm * 18446744073709551616 % 2 ^ d = 0
        · exact z
        · rw [hc.2 z] at hcut; exact absurd hcut (by decide)
      refine ⟨_, 0, rfl, by decide, pd, ?_, by simp⟩
      rw [y1, z]
      simp
    · have z := hc.1 hcut
      refine ⟨_, 2 ^ d - bm * 18446744073709551616 % 2 ^ d, rfl, by omega, by omega, ?_, ?_⟩
      · rw [y1, if_pos rfl, Int.sub_mul (am * 18446744073709551616 - (hi * 18446744073709551616 + lo)) 1, Int.one_mul]
        omega
      · simp; omega
  have D0 : 0 ≤ D := by
    have := Int.mul_pos hv (show (0 : Int) < 18446744073709551616 by decide)
    by_cases z : 0 ≤ D
    · exact z
    · have := mul_le_p d (show D ≤ -1 by omega)
      omega
  have D1 : D < 340282366920938463463374607431768211456 := by
    split at hD <;> omega
  -- the two words
  obtain ⟨h1, h2, hw1, hw2⟩ : ∃ h1 h2 : Int, h1 = D / 18446744073709551616 ∧ h2 = D % 18446744073709551616 := ⟨_, _, rfl, rfl⟩
  have g0 : 0 ≤ h1 ∧ h1 < 18446744073709551616 := by omega
  have g1 : 0 ≤ h2 ∧ h2 < 18446744073709551616 := by omega
  have gD : D = h1 * 18446744073709551616 + h2 := by omega
  have ne : (!(up == an)) = (up != an) := rfl
  have low : h1 = 0 → 0 < h2 ∧ r = 0 := by
    intro z
    have Dpos : 0 < h2 := by
      by_cases z2 : 0 < h2
      · exact z2
      · have : D = 0 := by omega
        rw [this, Int.zero_mul] at hDv
        have vW : 2 ^ d ≤ (am * 2 ^ d - bm) * 18446744073709551616 := by
          by_cases z : d ≤ 64
          · have := p2_mono z
            rw [p64] at this
            omega
          · have h1 := p2_mono (i := 64) (j := d) (by omega)
            rw [p64] at h1
            have h2 := mul_le_p d a0
            omega
        omega
    refine ⟨Dpos, ?_⟩
    -- so far down the difference is only where nothing is behind the 128 bits
    have t1 : (am * 2 ^ d - bm) * 18446744073709551616 < 18446744073709551616 * 2 ^ d := by
      have := mul_le_p d (show D + 1 ≤ 18446744073709551616 by omega)
      rw [Int.add_mul, Int.one_mul] at this
      omega
    have t2 : (9223372036854775808 - 1) * 2 ^ d ≤ (am - 1) * 2 ^ d := mul_le_p d (by omega)
    rw [Int.sub_mul] at t2
    rw [Int.sub_mul am] at t2
    have t3 : d < 2 := by
      by_cases z3 : d < 2
      · exact z3
      · have := p2_mono (i := 2) (j := d) (by omega)
        omega
    by_cases z4 : r = 0
    · exact z4
    · have t4 := hcr.2 z4
      have t5 := hc.1 t4
      have : d = 0 ∨ d = 1 := by omega
      rcases this with rfl | rfl <;> omega
  have wE : IntKind.i64.wrap (ae - 64) = ae - 64 := w64 (by omega) (by omega)
  have T1 : 0 < h1 → _ := fun p => minus_tail k an (up != an) cut (v' := am * 2 ^ d - bm) (e' := be) (E := ae) (r := r) (d := d) p g0.2 g1.1 g1.2 (by rw [hDv, gD]) hr0 hr1 hcr hd (by omega) (by omega)
  have T2 : h1 = 0 → _ := fun z => minus_tail k an (up != an) cut (v' := (am * 2 ^ d - bm) * 2 ^ 64) (e' := be - 64) (x0 := 0) (E := ae - 64) (r := r) (d := d) (low z).1 g1.2 (by decide) (by decide) (by rw [p64, hDv, (low z).2, gD, z]; simp [Int.mul_right_comm]) hr0 hr1 hcr (by omega) (by omega) (by omega)
  rw [rnd_scale hv, show be - 64 + ((64 : Nat) : Int) = be by omega] at T2
  have fin : ∀ (o : Option (HL [.int .u64, .int .u64])) (c2 : Int), o = some (h2, c2, ()) → sub64F (am, hi, c2, ()) = some (h1, (if am < hi + c2 then 1 else 0), ()) → True := fun _ _ _ _ => trivial
  cases hcut : cut
  · rw [hcut] at hD hl T1 T2
    simp only [Bool.false_eq_true, if_false] at hD
    obtain ⟨c2, hc2, c20, c21⟩ : ∃ c2 : Int, c2 = (if 0 < lo + 0 then 1 else 0) ∧ 0 ≤ c2 ∧ c2 ≤ 1 := ⟨_, rfl, by split <;> decide, by split <;> decide⟩
    have S1 : sub64F (0, lo, 0, ()) = some (h2, c2, ()) := by
      rw [sub64R (by decide) l0 l1 (by decide) (by decide), ← hc2]
      congr 2; omega
    have S2 : sub64F (am, hi, c2, ()) = some (h1, (if am < hi + c2 then 1 else 0), ()) := by
      rw [sub64R (by omega) i0 i1 c20 c21]
      congr 2
      split at hc2 <;> omega
    simp only [arith_minus, e, hl, Option.bind_some, cond_false, S1, S2, ne]
    by_cases z : h1 = 0
    · rw [beq_t z, cond_true, ← T2 z, wE]
      rfl
    · rw [beq_f z, cond_false, ← T1 (by omega)]
      rfl
  · rw [hcut] at hD hl T1 T2
    simp only [if_true] at hD
    obtain ⟨c2, hc2, c20, c21⟩ : ∃ c2 : Int, c2 = (if 0 < lo + 1 then 1 else 0) ∧ 0 ≤ c2 ∧ c2 ≤ 1 := ⟨_, rfl, by split <;> decide, by split <;> decide⟩
    have S1 : sub64F (0, lo, 1, ()) = some (h2, c2, ()) := by
      rw [sub64R (by decide) l0 l1 (by decide) (by decide), ← hc2]
      congr 2; omega
    have S2 : sub64F (am, hi, c2, ()) = some (h1, (if am < hi + c2 then 1 else 0), ()) := by
      rw [sub64R (by omega) i0 i1 c20 c21]
      congr 2
      split at hc2 <;> omega
    simp only [arith_minus, e, hl, Option.bind_some, cond_true, S1, S2, ne]
    by_cases z : h1 = 0
    · rw [beq_t z, cond_true, ← T2 z, wE]
      rfl
    · rw [beq_f z, cond_false, ← T1 (by omega)]
      rfl
/-- The sum of two finite ones, of which the first one is not the nearer to nought. -/
theorem add3 (k : Nat) {am ae bm be : Int} (an bn up : Bool) (a0 : 9223372036854775808 ≤ am) (a1 : am < 18446744073709551616) (b0 : 9223372036854775808 ≤ bm) (b1 : bm < 18446744073709551616) (e0 : -1048576 ≤ be) (e1 : ae ≤ 1048576) (hle : be < ae ∨ be = ae ∧ bm ≤ am) :
    (bif (an == bn) then (arith_plus k (1, an, am, ae) (1, bn, bm, be) up).bind fun r => some (r.1, ())
     else bif (ae == be) then bif (am == bm) then some ((0, false, 0, 0), ()) else (arith_minus k (1, an, am, ae) (1, bn, bm, be) up).bind fun r => some (r.1, ())
     else (arith_minus k (1, an, am, ae) (1, bn, bm, be) up).bind fun r => some (r.1, ()) : Option (HL [TNm])) = some (rnz (exs (1, an, am, ae) (1, bn, bm, be) be) be up, ()) := by
  obtain ⟨d, hd⟩ : ∃ d : Nat, ae = be + d := ⟨(ae - be).toNat, by omega⟩
  have pd := p2_pos d
  have ex : exs (1, an, am, ae) (1, bn, bm, be) be = sg an am * 2 ^ d + sg bn bm := by
    unfold exs
    simp only [show (ae - be).toNat = d by omega, show (be - be).toNat = 0 by omega, Int.pow_zero, Int.mul_one]
  have ad := mul_le_p d a0
  by_cases h : an = bn
  · subst h
    have vp : 0 < am * 2 ^ d + bm := by omega
    have es : sg an am * 2 ^ d + sg an bm = sg an (am * 2 ^ d + bm) := by
      unfold sg
      cases an
      · simp
      · simp only [if_true]; rw [Int.neg_mul]; omega
    rw [plus_eq k _ _ _ _ _ a0 a1 b0 b1 e0 e1 hd, ex, es, rnz_sg vp, show (an == an) = true by simp, cond_true]
    rfl
  · have hn : bn = !an := by cases an <;> cases bn <;> simp_all
    subst hn
    have es : sg an am * 2 ^ d + sg (!an) bm = sg an (am * 2 ^ d - bm) := by
      unfold sg
      cases an
      · simp only [Bool.not_false, if_true, Bool.false_eq_true, if_false]; omega
      · simp only [if_true, Bool.not_true, Bool.false_eq_true, if_false]; rw [Int.neg_mul]; omega
    have m : 0 < am * 2 ^ d - bm → arith_minus k (1, an, am, ae) (1, !an, bm, be) up = some (rnz (exs (1, an, am, ae) (1, !an, bm, be) be) be up, ()) := fun hv => by
      rw [minus_eq k _ _ _ _ _ a0 a1 b0 b1 e0 e1 hd hv, ex, es, rnz_sg hv]
    rw [show (an == !an) = false by cases an <;> rfl, cond_false]
    by_cases h2 : ae = be
    · have d0 : d = 0 := by omega
      subst d0
      simp only [Int.pow_zero, Int.mul_one] at m es
      rw [beq_t h2, cond_true]
      by_cases h3 : am = bm
      · rw [beq_t h3, cond_true, ex, Int.pow_zero, Int.mul_one, es, h3, Int.sub_self]
        unfold rnz sg
        simp
      · rw [beq_f h3, cond_false, m (by omega)]; rfl
    · rw [beq_f h2, cond_false, m]
      · rfl
      · have := p2_mono (i := 1) (j := d) (by omega)
        rw [Int.pow_one] at this
        have := Int.mul_le_mul_of_nonneg_left this (show 0 ≤ am by omega)
        omega
theorem i12 : ((1 : Int) == 2) = false := rfl
theorem i10 : ((1 : Int) == 0) = false := rfl
theorem i02 : ((0 : Int) == 2) = false := rfl
theorem i00 : ((0 : Int) == 0) = true := rfl
theorem i22 : ((2 : Int) == 2) = true := rfl
theorem i20 : ((2 : Int) == 0) = false := rfl
theorem arith_Add_eq (k : Nat) (a b : Nm) (up : Bool) (ha : a.2.2.1 < 18446744073709551616) (hb : b.2.2.1 < 18446744073709551616) :
    arith_Add k a b up = some (addv (fair a) (fair b) up, ()) := by
  simp only [arith_Add, arith_fair_eq, Option.bind_some]
  have ma := fair_wf ha
  have mb := fair_wf hb
  generalize fair a = x at ma
  generalize fair b = y at mb
  clear ha hb a b
  obtain ⟨a1, a2, a3, a4⟩ := x
  obtain ⟨b1, b2, b3, b4⟩ := y
  rcases ma with ⟨h1, h2, h3, h4⟩ | ⟨h1, h2, h3, h4, h5⟩ | ⟨h1, h2, h3⟩ <;> rcases mb with ⟨g1, g2, g3, g4⟩ | ⟨g1, g2, g3, g4, g5⟩ | ⟨g1, g2, g3⟩ <;> simp only at h1 g1 <;> subst h1 g1
  case inr.inl.inr.inl =>
    simp only at h2 h3 h4 h5 g2 g3 g4 g5
    rw [addv_fin rfl rfl]
    simp only [i12, i10, cond_false]
    by_cases z : b4 > a4
    · rw [cond_t z, add3 k _ _ _ g2 g3 h2 h3 (by omega) (by omega) (.inl z), exs_comm, Int.min_eq_left (by omega)]
    · rw [cond_f z]
      by_cases z2 : b4 = a4
      · rw [beq_t z2, cond_true]
        by_cases z3 : b3 > a3
        · have := add3 k (ae := b4) (be := a4) b2 a2 up g2 g3 h2 h3 (by omega) (by omega) (.inr ⟨z2.symm, by omega⟩)
          rw [beq_t z2] at this
          rw [cond_t z3]
          erw [this]
          rw [exs_comm, Int.min_eq_left (by omega)]
        · have := add3 k (ae := a4) (be := b4) a2 b2 up h2 h3 g2 g3 (by omega) (by omega) (.inr ⟨z2, by omega⟩)
          rw [cond_f z3]
          erw [this]
          rw [Int.min_eq_right (by omega)]
      · rw [beq_f z2, cond_false]
        have := add3 k (ae := a4) (be := b4) a2 b2 up h2 h3 g2 g3 (by omega) (by omega) (.inl (by omega))
        erw [this]
        rw [Int.min_eq_right (by omega)]
  all_goals simp only at h2 h3 g2 g3
  all_goals simp only [i12, i10, i02, i00, i20, i22, cond_false, cond_true, addv, num_Inf_eq, Option.bind_some]
  all_goals (cases a2 <;> cases b2 <;> simp_all)
theorem mul64_eq (k : Nat) {x y : Int} (x0 : 0 ≤ x) (x1 : x < 18446744073709551616) (y0 : 0 ≤ y) (y1 : y < 18446744073709551616) : bits_Mul64 k x y = some (x * y / 18446744073709551616, x * y % 18446744073709551616, ()) := by
  have bd : ∀ a b : Int, 0 ≤ a → a < 4294967296 → 0 ≤ b → b < 4294967296 → 0 ≤ a * b ∧ a * b ≤ 18446744065119617025 := fun a b ha ha' hb hb' => mul_bound ⟨ha, ha'⟩ ⟨hb, hb'⟩
  simp only [bits_Mul64, shr32, andR]
  rw [and_low x0 x1, and_low y0 y1]
  obtain ⟨xh, xl, hx, xh0, xh1, xl0, xl1⟩ : ∃ xh xl : Int, x = xh * 4294967296 + xl ∧ 0 ≤ xh ∧ xh < 4294967296 ∧ 0 ≤ xl ∧ xl < 4294967296 := ⟨x / 4294967296, x % 4294967296, by omega, by omega, by omega, by omega, by omega⟩
  obtain ⟨yh, yl, hy, yh0, yh1, yl0, yl1⟩ : ∃ yh yl : Int, y = yh * 4294967296 + yl ∧ 0 ≤ yh ∧ yh < 4294967296 ∧ 0 ≤ yl ∧ yl < 4294967296 := ⟨y / 4294967296, y % 4294967296, by omega, by omega, by omega, by omega, by omega⟩
  rw [show x / 4294967296 = xh by omega, show x % 4294967296 = xl by omega, show y / 4294967296 = yh by omega, show y % 4294967296 = yl by omega]
  have hp : x * y = xh * yh * 18446744073709551616 + (xh * yl + xl * yh) * 4294967296 + xl * yl := by rw [hx, hy]; grind
  obtain ⟨p1, p2⟩ := bd xh yh xh0 xh1 yh0 yh1
  obtain ⟨p3, p4⟩ := bd xh yl xh0 xh1 yl0 yl1
  obtain ⟨p5, p6⟩ := bd xl yh xl0 xl1 yh0 yh1
  obtain ⟨p7, p8⟩ := bd xl yl xl0 xl1 yl0 yl1
  rw [hp]
  generalize xh * yh = A at *
  generalize xh * yl = B at *
  generalize xl * yh = C at *
  generalize xl * yl = D at *
  clear hp hx hy x0 x1 y0 y1 xh0 xh1 xl0 xl1 yh0 yh1 yl0 yl1 bd
  rw [u64w (x := D) (by omega) (by omega), u64w (x := B) (by omega) (by omega), u64w (x := B + D / 4294967296) (by omega) (by omega), u64w (x := C) (by omega) (by omega), u64w (x := A) (by omega) (by omega), and_low (x := B + D / 4294967296) (by omega) (by omega)]
  rw [u64w (x := A + (B + D / 4294967296) / 4294967296) (by omega) (by omega), u64w (x := (B + D / 4294967296) % 4294967296 + C) (by omega) (by omega), u64w (by omega) (by omega), wrap_u64]
  have e1 : A + (B + D / 4294967296) / 4294967296 + ((B + D / 4294967296) % 4294967296 + C) / 4294967296 = (A * 18446744073709551616 + (B + C) * 4294967296 + D) / 18446744073709551616 := by omega
  exact congrArg some (Prod.ext e1 rfl)
theorem arith_Mul_eq (k : Nat) (a b : Nm) (up : Bool) (ha : a.2.2.1 < 18446744073709551616) (hb : b.2.2.1 < 18446744073709551616) :
    arith_Mul k a b up = some (mulv (fair a) (fair b) up, ()) := by
  simp only [arith_Mul, arith_fair_eq, Option.bind_some]
  have ma := fair_wf ha
  have mb := fair_wf hb
  generalize fair a = x at ma
  generalize fair b = y at mb
  clear ha hb a b
  obtain ⟨a1, a2, a3, a4⟩ := x
  obtain ⟨b1, b2, b3, b4⟩ := y
  rcases ma with ⟨h1, h2, h3, h4⟩ | ⟨h1, h2, h3, h4, h5⟩ | ⟨h1, h2, h3⟩ <;> rcases mb with ⟨g1, g2, g3, g4⟩ | ⟨g1, g2, g3, g4, g5⟩ | ⟨g1, g2, g3⟩ <;> simp only at h1 g1 <;> subst h1 g1
  case inr.inl.inr.inl =>
    simp only at h2 h3 h4 h5 g2 g3 g4 g5
    rw [mulv_fin rfl rfl]
    have ne : (!(a2 == b2)) = (a2 != b2) := rfl
    have ne2 : ∀ c : Bool, (!(up == c)) = (up != c) := fun _ => rfl
    simp only [i12, i10, cond_false]
    rw [mul64_eq k (by omega) h3 (by omega) g3]
    have q1 : 9223372036854775808 * 9223372036854775808 ≤ a3 * b3 := Int.mul_le_mul h2 g2 (by decide) (by omega)
    have q2 : a3 * b3 ≤ 18446744073709551615 * 18446744073709551615 := Int.mul_le_mul (by omega) (by omega) (by omega) (by decide)
    generalize a3 * b3 = P at q1 q2
    have w1 : IntKind.i64.wrap (a4 + b4) = a4 + b4 := w64 (by omega) (by omega)
    have w2 : IntKind.i64.wrap (a4 + b4 + 64) = a4 + b4 + 64 := w64 (by omega) (by omega)
    have w3 : IntKind.i64.wrap (a4 + b4 + 64 - 1) = a4 + b4 + (63 : Nat) := by rw [w64 (by omega) (by omega)]; omega
    simp only [Option.bind_some, w1, w2, w3, shl1, shr63, orR, ne, ne2]
    by_cases z : P / 18446744073709551616 < 9223372036854775808
    · rw [cond_t z]
      have o := (or_sum (h := P / 18446744073709551616) (l := P % 18446744073709551616 / 9223372036854775808) (b := 1) (j := 63) rfl (by omega) (by rw [p63]; exact z) (by omega) (by rw [Int.pow_one]; omega)).1
      rw [Int.pow_one] at o
      have s : P / 18446744073709551616 * 2 % 18446744073709551616 = P / 18446744073709551616 * 2 := by omega
      rw [s, o, grw_eq k _ _ _ _ _ (by omega) (by omega) (by omega) (by omega), Option.bind_some]
      congr 2
      refine (rnd_fit (div_fit (d := 63) (by omega) (by omega) (by rw [p63]; omega) ?_) _ _).symm
      rw [p63, bne_iff_ne]
      omega
    · rw [cond_f z, grw_eq k _ _ _ _ _ (by omega) (by omega) (by omega) (by omega), Option.bind_some]
      congr 2
      refine (rnd_fit (e := a4 + b4) (div_fit (d := 64) (by omega) (by omega) (by rw [p64]) ?_) _ _).symm
      rw [p64, bne_iff_ne]
  all_goals simp only at h2 h3 g2 g3
  all_goals simp only [i12, i10, i02, i00, i20, i22, cond_false, cond_true, mulv, num_Inf_eq, Option.bind_some]
  all_goals (cases a2 <;> cases b2 <;> simp_all)
/-! ### sums, products and opposites of intervals; the time of a step -/
def wfN (n : Nm) : Prop := n.2.2.1 < 18446744073709551616
def wfI (x : Iv) : Prop := wfN x.2.1 ∧ wfN x.2.2
def wfS (s : Sl) : Prop := wfN s.1 ∧ wfI s.2.1 ∧ wfI s.2.2
def wfT (t : Tb) : Prop := wfN t.1 ∧ wfI t.2.1 ∧ ∀ s ∈ t.2.2, wfS s
theorem wfN_zN : wfN zN := by unfold wfN; decide
theorem wfN_inf (b : Bool) : wfN (inf b) := show (0 : Int) < 18446744073709551616 by decide
theorem wfN_fair {n : Nm} (h : wfN n) : wfN (fair n) := by unfold fair; split; exact h; exact wfN_zN
theorem wfN_mayP {n : Nm} (h : mayP n) : wfN n := by
  obtain ⟨a, b, c, d⟩ := n
  rcases h with ⟨_, _, h, _⟩ | ⟨_, _, h, _⟩ | ⟨_, h, _⟩ <;> simp only [wfN] at * <;> omega
theorem wfN_neg {n : Nm} (h : wfN n) : wfN (neg n) := by have := wfN_fair h; exact this
theorem wfI_none : wfI noneI := ⟨wfN_zN, wfN_zN⟩
theorem wfI_mkI {a b : Nm} (ha : wfN a) (hb : wfN b) : wfI (mkI a b) := by
  rcases mkI_cases a b with e | ⟨e, _⟩ <;> rw [e]
  · exact wfI_none
  · exact ⟨wfN_fair ha, wfN_fair hb⟩
theorem wfN_least {l : List Nm} (h : ∀ n ∈ l, wfN n) : wfN (least l) := by
  rcases least_mem l with e | ⟨n, hn, e⟩ <;> rw [e]
  · exact wfN_inf _
  · exact wfN_fair (h n hn)
theorem wfN_most {l : List Nm} (h : ∀ n ∈ l, wfN n) : wfN (most l) := by
  rcases most_mem l with e | ⟨n, hn, e⟩ <;> rw [e]
  · exact wfN_inf _
  · exact wfN_fair (h n hn)
theorem wfI_fair {x : Iv} (h : wfI x) : wfI (fairI x) := by unfold fairI; split; exact h; exact wfI_none
theorem wfI_two {a b : Iv} (ha : wfI a) (hb : wfI b) : wfI (two a b) := by
  unfold two
  split
  · exact wfI_none
  · refine wfI_mkI (wfN_most fun n hn => ?_) (wfN_least fun n hn => ?_)
    · simp only [List.mem_cons, List.not_mem_nil, or_false] at hn
      rcases hn with rfl | rfl
      · exact (wfI_fair ha).1
      · exact (wfI_fair hb).1
    · simp only [List.mem_cons, List.not_mem_nil, or_false] at hn
      rcases hn with rfl | rfl
      · exact (wfI_fair ha).2
      · exact (wfI_fair hb).2

def bad (x : Iv) : Bool := x.1 || !mayI x
def addI (x y : Iv) : Iv := if bad x || bad y then noneI else mkI (addv (fair x.2.1) (fair y.2.1) false) (addv (fair x.2.2) (fair y.2.2) true)
def negI (x : Iv) : Iv := if bad x then noneI else mkI (neg x.2.2) (neg x.2.1)
def subI (x y : Iv) : Iv := addI x (negI y)
def mulI (x y : Iv) : Iv := if bad x || bad y then noneI else
  mkI (least [mulv (fair x.2.1) (fair y.2.1) false, mulv (fair x.2.1) (fair y.2.2) false, mulv (fair x.2.2) (fair y.2.1) false, mulv (fair x.2.2) (fair y.2.2) false])
    (most [mulv (fair x.2.1) (fair y.2.1) true, mulv (fair x.2.1) (fair y.2.2) true, mulv (fair x.2.2) (fair y.2.1) true, mulv (fair x.2.2) (fair y.2.2) true])
theorem addP {a b : Nm} (ha : wfN a) (hb : wfN b) (up : Bool) : mayP (addv (fair a) (fair b) up) := addv_may up (fair_wf ha) (fair_wf hb)
theorem mulP {a b : Nm} (ha : wfN a) (hb : wfN b) (up : Bool) : mayP (mulv (fair a) (fair b) up) := mulv_may up (fair_wf ha) (fair_wf hb)
theorem wfI_addI {x y : Iv} (hx : wfI x) (hy : wfI y) : wfI (addI x y) := by
  unfold addI
  split
  · exact wfI_none
  · exact wfI_mkI (wfN_mayP (addP hx.1 hy.1 _)) (wfN_mayP (addP hx.2 hy.2 _))
theorem wfI_negI {x : Iv} (hx : wfI x) : wfI (negI x) := by
  unfold negI
  split
  · exact wfI_none
  · exact wfI_mkI (wfN_neg hx.2) (wfN_neg hx.1)
theorem wfI_subI {x y : Iv} (hx : wfI x) (hy : wfI y) : wfI (subI x y) := wfI_addI hx (wfI_negI hy)
theorem wfI_mulI {x y : Iv} (hx : wfI x) (hy : wfI y) : wfI (mulI x y) := by
  unfold mulI
  split
  · exact wfI_none
  · refine wfI_mkI (wfN_least fun n hn => ?_) (wfN_most fun n hn => ?_)
    all_goals
      simp only [List.mem_cons, List.not_mem_nil, or_false] at hn
      rcases hn with rfl | rfl | rfl | rfl
      · exact wfN_mayP (mulP hx.1 hy.1 _)
      · exact wfN_mayP (mulP hx.1 hy.2 _)
      · exact wfN_mayP (mulP hx.2 hy.1 _)
      · exact wfN_mayP (mulP hx.2 hy.2 _)
theorem none_loop (k : Nat) : ∀ (s pre : List Iv) (m : Nat), s.length < m → pre.length + s.length ≤ 1000000 →
    ivop_none_l0 k m ((pre ++ s, ((pre ++ s).length : Int), (pre.length : Int), ()), ()) = some (bif s.any bad then Sum.inl ((true, ()), ()) else Sum.inr (Sum.inl ((), ())))
  | [], pre, m + 1, hm, hl => by simp [ivop_none_l0]
  | x :: s, pre, m + 1, hm, hl => by
    simp only [List.length_cons] at hm hl
    have ih := none_loop k s (pre ++ [x]) m (by omega) (by simp; omega)
    rw [mid_eq, len_snoc] at ih
    simp only [ivop_none_l0, cond_t (len_lt pre x s), if_pos (Int.natCast_nonneg pre.length), at_mid, Option.bind_some, iv_May_eq, wrap_succ (show pre.length ≤ 1000000000 by omega)]
    rw [ih]
    simp only [List.any_cons, bad]
    cases x.1 <;> cases mayI x <;> simp
theorem ivop_none_eq (k : Nat) (l : List Iv) (h : l.length < k) (h' : l.length ≤ 1000000) : ivop_none k l = some (l.any bad, ()) := by
  have := none_loop k l [] k h (by simpa using h')
  simp only [List.nil_append, List.length_nil] at this
  simp only [ivop_none]
  rw [show ((0 : Nat) : Int) = 0 from rfl] at this
  rw [this]
  cases l.any bad <;> rfl
theorem ivop_Add_eq (k : Nat) (hk : 100 ≤ k) {x y : Iv} (hx : wfI x) (hy : wfI y) : ivop_Add k [x, y] = some (addI x y, ()) := by
  simp only [ivop_Add, ivop_none_eq k [x, y] (by simp; omega) (by simp), Option.bind_some, iv_None_eq, addI]
  simp only [List.any_cons, List.any_nil, Bool.or_false]
  cases hb : (bad x || bad y)
  · rw [cond_false]
    obtain ⟨m, rfl⟩ : ∃ m, k = m + 1 + 1 + 1 := ⟨k - 3, by omega⟩
    have c0 : (0 : Int) < (([x, y] : List Iv).length : Int) := by simp
    have c1 : (1 : Int) < (([x, y] : List Iv).length : Int) := by simp
    have c2 : ¬ (2 : Int) < (([x, y] : List Iv).length : Int) := by simp
    have w1 : IntKind.i64.wrap (0 + 1) = 1 := by decide
    have w2 : IntKind.i64.wrap (1 + 1) = 2 := by decide
    have g0 : ([x, y] : List Iv)[Int.toNat 0]? = some x := rfl
    have g1 : ([x, y] : List Iv)[Int.toNat 1]? = some y := rfl
    have z0 : (0 : Int) ≤ 0 := by decide
    have z1 : (0 : Int) ≤ 1 := by decide
    have step : ∀ Z, ivop_Add_l0 (m + 1 + 1 + 1) (m + 1 + 1 + 1) (((), (), (), [x, y], (([x, y] : List Iv).length : Int), 0, ()), Z) = some (Sum.inl (((), (), (), ()), (Z.1, addv (fair x.2.1) (fair y.2.1) false, addv (fair x.2.2) (fair y.2.2) true, ()))) := by
      intro Z
      rw [ivop_Add_l0]
      simp only [cond_t c0, if_pos z0, g0, Option.bind_some, i00, cond_true, w1]
      rw [ivop_Add_l0]
      simp only [cond_t c1, if_pos z1, g1, Option.bind_some, i10, cond_false, w2, arith_Add_eq _ _ _ _ hx.1 hy.1, arith_Add_eq _ _ _ _ hx.2 hy.2]
      rw [ivop_Add_l0]
      simp only [cond_f c2]
    rw [step]
    simp only [Option.bind_some, Sum.elim_inl, iv_Make_eq]
    simp
  · rw [cond_true]; simp
theorem ivop_Neg_eq (k : Nat) (hk : 100 ≤ k) (x : Iv) : ivop_Neg k x = some (negI x, ()) := by
  simp only [ivop_Neg, ivop_none_eq k [x] (by simp; omega) (by simp), Option.bind_some, iv_None_eq, negI, num_Neg_eq, iv_Make_eq]
  simp only [List.any_cons, List.any_nil, Bool.or_false]
  cases bad x <;> simp
theorem ivop_Sub_eq (k : Nat) (hk : 100 ≤ k) {x y : Iv} (hx : wfI x) (hy : wfI y) : ivop_Sub k x y = some (subI x y, ()) := by
  simp only [ivop_Sub, ivop_Neg_eq k hk, Option.bind_some, ivop_Add_eq k hk hx (wfI_negI hy), subI]
theorem ivop_Mul_eq (k : Nat) (hk : 100 ≤ k) {x y : Iv} (hx : wfI x) (hy : wfI y) : ivop_Mul k x y = some (mulI x y, ()) := by
  simp only [ivop_Mul, ivop_none_eq k [x, y] (by simp; omega) (by simp), Option.bind_some, iv_None_eq, mulI, arith_Mul_eq _ _ _ _ hx.1 hy.1, arith_Mul_eq _ _ _ _ hx.1 hy.2, arith_Mul_eq _ _ _ _ hx.2 hy.1, arith_Mul_eq _ _ _ _ hx.2 hy.2,
    num_Least_eq k [_, _, _, _] (by simp; omega) (by simp), num_Most_eq k [_, _, _, _] (by simp; omega) (by simp), iv_Make_eq]
  simp only [List.any_cons, List.any_nil, Bool.or_false]
  cases (bad x || bad y) <;> simp
theorem arith_Sub_eq (k : Nat) {a b : Nm} (ha : wfN a) (hb : wfN b) (up : Bool) : arith_Sub k a b up = some (addv (fair a) (neg b) up, ()) := by
  simp only [arith_Sub, num_Neg_eq, Option.bind_some, arith_Add_eq k a (neg b) up ha (wfN_neg hb), fair_may (may_neg b)]
/-! the steps of a tube, by number -/
def slG (l : List Sl) (i : Nat) : Sl := l[i]?.getD (zN, noneI, noneI)
def timeN (t : Tb) : Nat → Nm
  | 0 => t.1
  | i + 1 => (slG t.2.2 i).1
def gtN (t : Tb) : Nat → Iv
  | 0 => t.2.1
  | i + 1 => (slG t.2.2 i).2.2
def dtI (t : Tb) (i : Nat) : Iv := mkI (addv (fair (timeN t (i + 1))) (neg (timeN t i)) false) (addv (fair (timeN t (i + 1))) (neg (timeN t i)) true)
theorem slG_eq {l : List Sl} {i : Nat} (h : i < l.length) : l[i]? = some (slG l i) := by unfold slG; rw [List.getElem?_eq_getElem h]; rfl
theorem slG_mem {l : List Sl} {i : Nat} (h : i < l.length) : slG l i ∈ l := List.mem_of_getElem? (slG_eq h)
theorem wfN_time {t : Tb} (h : wfT t) {i : Nat} (hi : i ≤ t.2.2.length) : wfN (timeN t i) := by
  cases i with
  | zero => exact h.1
  | succ i => exact (h.2.2 _ (slG_mem hi)).1
theorem wfI_gt {t : Tb} (h : wfT t) {i : Nat} (hi : i ≤ t.2.2.length) : wfI (gtN t i) := by
  cases i with
  | zero => exact h.2.1
  | succ i => exact (h.2.2 _ (slG_mem hi)).2.2
theorem flow_when_eq (k : Nat) (t : Tb) (i : Nat) (hi : i ≤ t.2.2.length) (hl : i ≤ 1000) : flow_when k t (i : Int) = some (timeN t i, ()) := by
  cases i with
  | zero => rfl
  | succ i =>
    simp only [flow_when]
    rw [beq_f (by omega), cond_false, wrap_pred (by omega), if_pos (Int.natCast_nonneg i), Int.toNat_natCast, slG_eq hi]
    rfl
theorem flow_Time_eq (k : Nat) (hk : 100 ≤ k) (t : Tb) (i : Nat) (hm : mayT t = true) (hw : wfT t) (hi : i < t.2.2.length) : flow_Time k t (i : Int) = some (dtI t i, ()) := by
  have hl := mayT_len hm
  have c1 : ¬ (i : Int) < 0 := by omega
  have c2 : ¬ (i : Int) ≥ (t.2.2.length : Int) := by omega
  simp only [flow_Time, tube_May_eq k hk, hm, Option.bind_some, Bool.not_true, cond_false, cond_f c1, cond_f c2, wrap_succ (show i ≤ 1000000000 by omega),
    flow_when_eq k t i (by omega) (by omega), flow_when_eq k t (i + 1) (by omega) (by omega), arith_Sub_eq k (wfN_time hw (show i + 1 ≤ _ by omega)) (wfN_time hw (show i ≤ _ by omega)), iv_Make_eq, dtI]
theorem wfI_dt {t : Tb} (hw : wfT t) {i : Nat} (hi : i < t.2.2.length) : wfI (dtI t i) := by
  have h1 := wfN_time hw (show i + 1 ≤ t.2.2.length by omega)
  have h2 := wfN_time hw (show i ≤ t.2.2.length by omega)
  have p : ∀ up, mayP (addv (fair (timeN t (i + 1))) (neg (timeN t i)) up) := fun up => addv_may up (fair_wf h1) (by have := fair_wf (wfN_neg h2); rwa [fair_may (may_neg _)] at this)
  exact wfI_mkI (wfN_mayP (p _)) (wfN_mayP (p _))
/-! ### the passes of Contract -/
def rtG (r : List Iv) (i : Nat) : Iv := r[i]?.getD noneI
theorem rtG_eq {r : List Iv} {i : Nat} (h : i < r.length) : r[i]? = some (rtG r i) := by unfold rtG; rw [List.getElem?_eq_getElem h]; rfl
theorem rtG_mem {r : List Iv} {i : Nat} (h : i < r.length) : rtG r i ∈ r := List.mem_of_getElem? (rtG_eq h)
def runA (r : List Iv) (t : Tb) (i : Nat) : Iv := mulI (rtG r i) (dtI t i)
def runB (r : List Iv) (t : Tb) (i : Nat) : Iv := mulI (rtG r i) (mkI zN (dtI t i).2.2)
def fwd (r : List Iv) (t : Tb) (i : Nat) : Tb :=
  (t.1, t.2.1, t.2.2.set i ((slG t.2.2 i).1, two (slG t.2.2 i).2.1 (addI (gtN t i) (runB r t i)), two (slG t.2.2 i).2.2 (addI (gtN t i) (runA r t i))))
def setG (t : Tb) (x : Iv) : Nat → Tb
  | 0 => (t.1, x, t.2.2)
  | i + 1 => (t.1, t.2.1, t.2.2.set i ((slG t.2.2 i).1, (slG t.2.2 i).2.1, x))
def bwd (r : List Iv) (t : Tb) (i : Nat) : Tb :=
  let t' := setG t (two (gtN t i) (subI (gtN t (i + 1)) (runA r t i))) i
  (t'.1, t'.2.1, t'.2.2.set i ((slG t.2.2 i).1, two (slG t.2.2 i).2.1 (subI (gtN t (i + 1)) (runB r t i)), (slG t.2.2 i).2.2))
theorem fwd_len (r : List Iv) (t : Tb) (i : Nat) : (fwd r t i).2.2.length = t.2.2.length := by simp [fwd]
theorem bwd_len (r : List Iv) (t : Tb) (i : Nat) : (bwd r t i).2.2.length = t.2.2.length := by cases i <;> simp [bwd, setG]
/-- The first pass, from a step on; the second one, down from a step. -/
def fwds (r : List Iv) : Nat → Nat → Tb → Tb
  | 0, _, t => t
  | j + 1, i, t => fwds r j (i + 1) (fwd r t i)
def bwds (r : List Iv) : Nat → Tb → Tb
  | 0, t => t
  | j + 1, t => bwds r j (bwd r t j)
theorem fwds_len (r : List Iv) : ∀ j i t, (fwds r j i t).2.2.length = t.2.2.length
  | 0, _, _ => rfl
  | j + 1, i, t => by rw [fwds, fwds_len r j, fwd_len]
theorem bwds_len (r : List Iv) : ∀ j t, (bwds r j t).2.2.length = t.2.2.length
  | 0, _ => rfl
  | j + 1, t => by rw [bwds, bwds_len r j, bwd_len]

/-! what the steps keep -/
theorem slG_set_self {l : List Sl} {i : Nat} (h : i < l.length) (s : Sl) : slG (l.set i s) i = s := by unfold slG; rw [List.getElem?_set_self h]; rfl
theorem slG_set_ne {l : List Sl} {i j : Nat} (h : i ≠ j) (s : Sl) : slG (l.set i s) j = slG l j := by unfold slG; rw [List.getElem?_set_ne h]
theorem ends_set' {l : List Sl} {i : Nat} {s : Sl} (h : s.1 = (slG l i).1) : ends (l.set i s) = ends l := by
  apply List.ext_getElem?
  intro n
  simp only [ends, List.getElem?_map, List.getElem?_set]
  split
  · rename_i e
    subst e
    split
    · rename_i hl
      rw [slG_eq hl]; simp [h]
    · rename_i hl
      rw [List.getElem?_eq_none (by omega)]
  · rfl
theorem okS_set' : ∀ {l : List Sl} {w : Nm} {i : Nat} {s : Sl}, okS w l = true → s.1 = (slG l i).1 → mayI s.2.1 = true → mayI s.2.2 = true → okS w (l.set i s) = true
  | [], _, _, _, _, _, _, _ => by simp [okS]
  | x :: l, w, 0, s, h, h1, h2, h3 => by
    have h1 : s.1 = x.1 := h1
    simp only [List.set_cons_zero, okS, Bool.and_eq_true] at h ⊢
    rw [h1]
    exact ⟨⟨⟨h.1.1.1, h2⟩, h3⟩, h.2⟩
  | x :: l, w, i + 1, s, h, h1, h2, h3 => by
    simp only [List.set_cons_succ, okS, Bool.and_eq_true] at h ⊢
    exact ⟨h.1, okS_set' h.2 h1 h2 h3⟩
theorem okS_mem {l : List Sl} : ∀ {w : Nm}, okS w l = true → ∀ s ∈ l, mayI s.2.1 = true ∧ mayI s.2.2 = true := by
  induction l with
  | nil => intro w h s hs; cases hs
  | cons x l ih =>
    intro w h s hs
    simp only [okS, Bool.and_eq_true] at h
    rcases List.mem_cons.1 hs with rfl | hs
    · exact ⟨h.1.1.2, h.1.2⟩
    · exact ih h.2 s hs
theorem mayT_iff {t : Tb} : mayT t = true ↔ finite t.1 = true ∧ mayI t.2.1 = true ∧ t.2.2.length ≤ 64 ∧ okS t.1 t.2.2 = true := by
  simp only [mayT, Bool.and_eq_true, decide_eq_true_eq, and_assoc]
theorem mayT_set {t : Tb} {i : Nat} {s : Sl} (h : mayT t = true) (h1 : s.1 = (slG t.2.2 i).1) (h2 : mayI s.2.1 = true) (h3 : mayI s.2.2 = true) : mayT (t.1, t.2.1, t.2.2.set i s) = true := by
  rw [mayT_iff] at *
  exact ⟨h.1, h.2.1, by simpa using h.2.2.1, okS_set' h.2.2.2 h1 h2 h3⟩
theorem mayT_sl {t : Tb} (h : mayT t = true) {i : Nat} (hi : i < t.2.2.length) : mayI (slG t.2.2 i).2.1 = true ∧ mayI (slG t.2.2 i).2.2 = true := okS_mem (mayT_iff.1 h).2.2.2 _ (slG_mem hi)
theorem mayT_fwd {r : List Iv} {t : Tb} {i : Nat} (h : mayT t = true) : mayT (fwd r t i) = true := mayT_set h rfl (mayI_two _ _) (mayI_two _ _)
theorem mayT_setG {t : Tb} {x : Iv} {i : Nat} (h : mayT t = true) (hx : mayI x = true) (hi : i ≤ t.2.2.length) : mayT (setG t x i) = true := by
  cases i with
  | zero =>
    rw [mayT_iff] at *
    exact ⟨h.1, hx, h.2.2⟩
  | succ i => exact mayT_set h rfl (mayT_sl h hi).1 hx
theorem slG_setG {t : Tb} {x : Iv} (i : Nat) : slG (setG t x i).2.2 i = slG t.2.2 i := by
  cases i with
  | zero => rfl
  | succ i => exact slG_set_ne (by omega) _
theorem mayT_bwd {r : List Iv} {t : Tb} {i : Nat} (h : mayT t = true) (hi : i < t.2.2.length) : mayT (bwd r t i) = true := by
  refine mayT_set (t := setG t _ i) (mayT_setG h (mayI_two _ _) (by omega)) ?_ (mayI_two _ _) (mayT_sl h hi).2
  rw [slG_setG]
theorem wfT_set {t : Tb} {i : Nat} {s : Sl} (h : wfT t) (hs : wfS s) : wfT (t.1, t.2.1, t.2.2.set i s) := by
  refine ⟨h.1, h.2.1, fun x hx => ?_⟩
  rcases List.mem_or_eq_of_mem_set hx with hx | rfl
  · exact h.2.2 x hx
  · exact hs
theorem wfI_runA {r : List Iv} {t : Tb} {i : Nat} (hr : ∀ x ∈ r, wfI x) (hi : i < r.length) (h : wfT t) (hi' : i < t.2.2.length) : wfI (runA r t i) := wfI_mulI (hr _ (rtG_mem hi)) (wfI_dt h hi')
theorem wfI_runB {r : List Iv} {t : Tb} {i : Nat} (hr : ∀ x ∈ r, wfI x) (hi : i < r.length) (h : wfT t) (hi' : i < t.2.2.length) : wfI (runB r t i) := wfI_mulI (hr _ (rtG_mem hi)) (wfI_mkI wfN_zN (wfI_dt h hi').2)
theorem wfT_fwd {r : List Iv} {t : Tb} {i : Nat} (hr : ∀ x ∈ r, wfI x) (hi : i < r.length) (h : wfT t) (hi' : i < t.2.2.length) : wfT (fwd r t i) := by
  have hs := h.2.2 _ (slG_mem hi')
  have hg := wfI_gt h (show i ≤ t.2.2.length by omega)
  exact wfT_set h ⟨hs.1, wfI_two hs.2.1 (wfI_addI hg (wfI_runB hr hi h hi')), wfI_two hs.2.2 (wfI_addI hg (wfI_runA hr hi h hi'))⟩
theorem wfT_setG {t : Tb} {x : Iv} {i : Nat} (h : wfT t) (hx : wfI x) (hi : i ≤ t.2.2.length) : wfT (setG t x i) := by
  cases i with
  | zero => exact ⟨h.1, hx, h.2.2⟩
  | succ i =>
    have hs := h.2.2 _ (slG_mem (show i < t.2.2.length from hi))
    exact wfT_set h ⟨hs.1, hs.2.1, hx⟩
theorem wfT_bwd {r : List Iv} {t : Tb} {i : Nat} (hr : ∀ x ∈ r, wfI x) (hi : i < r.length) (h : wfT t) (hi' : i < t.2.2.length) : wfT (bwd r t i) := by
  have hs := h.2.2 _ (slG_mem hi')
  have hg := wfI_gt h (show i ≤ t.2.2.length by omega)
  have hg2 : wfI (gtN t (i + 1)) := hs.2.2
  exact wfT_set (t := setG t _ i) (wfT_setG h (wfI_two hg (wfI_subI hg2 (wfI_runA hr hi h hi'))) (by omega)) ⟨hs.1, wfI_two hs.2.1 (wfI_subI hg2 (wfI_runB hr hi h hi')), hs.2.2⟩
/-! the code's passes -/
theorem set_self {l : List Sl} {i : Nat} (h : i < l.length) (s : Sl) : (l.set i s)[i]? = some s := List.getElem?_set_self h
theorem fwd_loop (k : Nat) (hk : 200 ≤ k) (r : List Iv) (hr : ∀ x ∈ r, wfI x) (D : Nm × Iv × List Sl) : ∀ (j m i : Nat) (t : Tb) (n : Nat), j < m → i + j = n → n = t.2.2.length → n = r.length → mayT t = true → wfT t →
    flow_Contract_l4 k m ((r, (), (), (), (), (), (), (n : Int), (i : Int), ()), ((t.1, (t.2.1, ())), D, t.2.2, (), r, true, ())) = some (Sum.inl ((r, (), (), ()), (((fwds r j i t).1, ((fwds r j i t).2.1, ())), D, (fwds r j i t).2.2, ()))) := by
  intro j
  induction j with
  | zero =>
    intro m i t n hm hi hn hr2 ht hw
    cases m with
    | zero => omega
    | succ m =>
      have : ¬ (i : Int) < (n : Int) := by omega
      simp only [flow_Contract_l4, cond_f this, fwds]
  | succ j ih =>
    intro m i t n hm hi hn hr2 ht hw
    cases m with
    | zero => omega
    | succ m =>
      have hlt : (i : Int) < (n : Int) := by omega
      have hit : i < t.2.2.length := by omega
      have hir : i < r.length := by omega
      have h64 := mayT_len ht
      have next := ih m (i + 1) (fwd r t i) n (by omega) (by omega) (by rw [fwd_len]; exact hn) hr2 (mayT_fwd ht) (wfT_fwd hr hir hw hit)
      have hT := flow_Time_eq k (by omega) t i ht hw hit
      have hg := wfI_gt hw (show i ≤ t.2.2.length by omega)
      have hA := ivop_Mul_eq k (by omega) (hr _ (rtG_mem hir)) (wfI_dt hw hit)
      have hB := ivop_Mul_eq k (by omega) (hr _ (rtG_mem hir)) (wfI_mkI wfN_zN (wfI_dt hw hit).2)
      have sA := ivop_Add_eq k (by omega) hg (wfI_runA hr hir hw hit)
      have sB := ivop_Add_eq k (by omega) hg (wfI_runB hr hir hw hit)
      rw [fwds, ← next]
      obtain ⟨st, inn, l⟩ := t
      simp only at hit hT hA hB hn h64
      simp only [flow_Contract_l4, cond_t hlt, Bool.not_true, cond_false, hT, Option.bind_some, if_pos (Int.natCast_nonneg i), Int.toNat_natCast, slG_eq hit, rtG_eq hir, hA, hB, iv_Make_eq, set_self hit, List.set_set, wrap_succ (show i ≤ 1000000000 by omega)]
      cases i with
      | zero =>
        have c : ¬ ((0 : Nat) : Int) > 0 := by decide
        simp only [cond_f c]
        erw [sA]
        simp only [Option.bind_some, iv_Meet2 k _ _ (show 3 ≤ k by omega)]
        erw [sB]
        simp only [Option.bind_some, iv_Meet2 k _ _ (show 3 ≤ k by omega)]
        rfl
      | succ i =>
        have c : ((i + 1 : Nat) : Int) > 0 := by omega
        have hi1 : i < l.length := by omega
        have e : ∀ s : Sl, (l.set (i + 1) s)[i]? = some (slG l i) := fun s => by rw [List.getElem?_set_ne (by omega)]; exact slG_eq hi1
        simp only [cond_t c, wrap_pred (show i ≤ 1000000000 by omega), if_pos (Int.natCast_nonneg i), Int.toNat_natCast, slG_eq hi1, Option.bind_some, e]
        erw [sA]
        simp only [Option.bind_some, iv_Meet2 k _ _ (show 3 ≤ k by omega), set_self hit, e]
        erw [sB]
        simp only [Option.bind_some, iv_Meet2 k _ _ (show 3 ≤ k by omega), List.set_set]
        rfl
theorem bwd_loop (k : Nat) (hk : 200 ≤ k) (r : List Iv) (hr : ∀ x ∈ r, wfI x) (D : Nm × Iv × List Sl) : ∀ (j m i : Nat) (t : Tb) (n : Nat), j < m → i + j = n → n = t.2.2.length → n = r.length → mayT t = true → wfT t →
    flow_Contract_l5 k m (((), (), (), (), (), (), (n : Int), (i : Int), ()), ((t.1, (t.2.1, ())), D, t.2.2, (), r, false, ())) = some (Sum.inl (((), (), ()), (((bwds r j t).1, ((bwds r j t).2.1, ())), D, (bwds r j t).2.2, ()))) := by
  intro j
  induction j with
  | zero =>
    intro m i t n hm hi hn hr2 ht hw
    cases m with
    | zero => omega
    | succ m =>
      have : ¬ (i : Int) < (n : Int) := by omega
      simp only [flow_Contract_l5, cond_f this, bwds]
  | succ j ih =>
    intro m i t n hm hi hn hr2 ht hw
    cases m with
    | zero => omega
    | succ m =>
      have hlt : (i : Int) < (n : Int) := by omega
      have hit : j < t.2.2.length := by omega
      have hir : j < r.length := by omega
      have h64 := mayT_len ht
      have next := ih m (i + 1) (bwd r t j) n (by omega) (by omega) (by rw [bwd_len]; exact hn) hr2 (mayT_bwd ht hit) (wfT_bwd hr hir hw hit)
      have hT := flow_Time_eq k (by omega) t j ht hw hit
      have hg : wfI (slG t.2.2 j).2.2 := (hw.2.2 _ (slG_mem hit)).2.2
      have hA := ivop_Mul_eq k (by omega) (hr _ (rtG_mem hir)) (wfI_dt hw hit)
      have hB := ivop_Mul_eq k (by omega) (hr _ (rtG_mem hir)) (wfI_mkI wfN_zN (wfI_dt hw hit).2)
      have sA := ivop_Sub_eq k (by omega) hg (wfI_runA hr hir hw hit)
      have sB := ivop_Sub_eq k (by omega) hg (wfI_runB hr hir hw hit)
      rw [bwds, ← next]
      obtain ⟨st, inn, l⟩ := t
      simp only at hit hT hA hB hn h64 sA sB
      have ix : IntKind.i64.wrap (IntKind.i64.wrap ((l.length : Int) - 1) - (i : Int)) = (j : Int) := by
        rw [wrap_small (x := (l.length : Int) - 1) (by omega) (by omega), wrap_small (by omega) (by omega)]; omega
      simp only [flow_Contract_l5, cond_t hlt, Bool.not_false, cond_true, ix, hT, Option.bind_some, if_pos (Int.natCast_nonneg j), Int.toNat_natCast, slG_eq hit, rtG_eq hir, hA, hB, iv_Make_eq, List.set_set, wrap_succ (show i ≤ 1000000000 by omega)]
      cases j with
      | zero =>
        have c : ¬ ((0 : Nat) : Int) > 0 := by decide
        simp only [cond_f c]
        erw [sA]
        simp only [Option.bind_some, iv_Meet2 k _ _ (show 3 ≤ k by omega)]
        erw [sB]
        simp only [Option.bind_some, iv_Meet2 k _ _ (show 3 ≤ k by omega)]
        rfl
      | succ j =>
        have c : ((j + 1 : Nat) : Int) > 0 := by omega
        have hi1 : j < l.length := by omega
        have e : ∀ s : Sl, (l.set j s)[j + 1]? = some (slG l (j + 1)) := fun s => by rw [List.getElem?_set_ne (by omega)]; exact slG_eq hit
        simp only [cond_t c, wrap_pred (show j ≤ 1000000000 by omega), if_pos (Int.natCast_nonneg j), Int.toNat_natCast, slG_eq hi1, Option.bind_some]
        erw [sA]
        simp only [Option.bind_some, iv_Meet2 k _ _ (show 3 ≤ k by omega), e]
        erw [sB]
        simp only [Option.bind_some, iv_Meet2 k _ _ (show 3 ≤ k by omega)]
        rfl
/-! ### the loops of Contract before its passes -/
theorem cfit_loop (k : Nat) (hk : 3 ≤ k) (r : List Iv) (T : Tb) (D2 D : Nm × Iv × List Sl) (st : Nm) (inn : Iv) : ∀ (m : Nat) (s pre : List Sl) (g : Nm × Iv) (I : Nm × Iv × Unit) (A : List Sl), s.length + 1 < m → pre.length + s.length ≤ 1000000 →
    (A = match pre.getLast? with | none => s | some p => fitN pre.dropLast (some p) ++ p :: s) → ∃ g', 
    flow_Contract_l2 k m ((r, (), (), (), (), (), (((pre ++ s).length + 1 : Nat) : Int), (pre.length : Int), (), (), ()), (T, D2, g, D, I, A, (st, inn, pre ++ s), ())) =
      some (Sum.inl ((r, (), (), (), (), ()), (T, D2, D, ((I.1, (if pre = [] then nx g.2 s else I.2.1), ()), g', ())))) ∧ g' = fitN (pre ++ s) none := by
  intro m
  induction m with
  | zero => intro s pre g I A hm; omega
  | succ m IH =>
    intro s pre g I A hm hl hA
    have hlt : (pre.length : Int) < (((pre ++ s).length + 1 : Nat) : Int) := by simp; omega
    have next : ∀ (g2' : Nm × Iv) (I2 : Nm × Iv × Unit) (A2 : List Sl), (s = [] → A2 = fitN pre none) → (∀ x q, s = x :: q → A2 = fitN pre (some x) ++ x :: q) → ∃ g', flow_Contract_l2 k m ((r, (), (), (), (), (), (((pre ++ s).length + 1 : Nat) : Int), ((pre.length + 1 : Nat) : Int), (), (), ()), (T, D2, g2', D, I2, A2, (st, inn, pre ++ s), ())) =
      some (Sum.inl ((r, (), (), (), (), ()), (T, D2, D, ((I2.1, I2.2.1, ()), g', ())))) ∧ g' = fitN (pre ++ s) none := by
      intro g2' I2 A2 h1 h2
      cases s with
      | nil =>
        cases m with
        | zero => simp at hm
        | succ m =>
          have h3 : ¬ ((pre.length + 1 : Nat) : Int) < (((pre ++ []).length + 1 : Nat) : Int) := by simp
          refine ⟨A2, ?_, by simpa using h1 rfl⟩
          simp only [flow_Contract_l2]
          rw [cond_f h3]
      | cons y q =>
        simp only [List.length_cons] at hm hl
        obtain ⟨g', ih, e⟩ := IH q (pre ++ [y]) g2' I2 A2 (by omega) (by simp; omega) (by simpa using h2 y q rfl)
        rw [mid_eq, len_snoc] at ih
        rw [mid_eq] at e
        exact ⟨g', by rw [ih]; simp, e⟩
    simp only [flow_Contract_l2]
    rw [cond_t hlt, wrap_succ (show pre.length ≤ 1000000000 by omega)]
    rcases List.eq_nil_or_concat pre with rfl | ⟨pre, p, rfl⟩
    · simp only [List.getLast?_nil] at hA
      subst hA
      have h0 : ¬ (([] : List Sl).length : Int) > 0 := by simp
      have h00 : ((([] : List Sl).length : Int) == 0) = true := rfl
      simp only [cond_f h0, h00, cond_true, if_true]
      cases A with
      | nil =>
        have h1 : ¬ (([] : List Sl).length : Int) < (([] ++ [] : List Sl).length : Int) := by simp
        simp only [cond_f h1, nx]
        exact next _ (I.1, g.2, ()) _ (fun _ => rfl) (fun _ _ h => by cases h)
      | cons y q =>
        have h1 : (([] : List Sl).length : Int) < (([] ++ y :: q : List Sl).length : Int) := by simp
        rw [cond_t h1, if_pos (Int.natCast_nonneg _), at_mid]
        simp only [Option.bind_some, nx, iv_Meet2 k _ _ hk]
        exact next _ (I.1, two g.2 y.2.1, ()) _ (fun h => by cases h) (fun x q h => by cases h; rfl)
    · simp only [List.concat_eq_append] at *
      rw [len_snoc] at hl
      simp only [List.getLast?_append, List.getLast?_singleton, Option.some_or, List.dropLast_concat] at hA
      subst hA
      have h0 : (((pre ++ [p]).length : Nat) : Int) > 0 := by simp
      have h00 : (((pre ++ [p]).length : Int) == 0) = false := by rw [len_snoc]; exact beq_f (by omega)
      have hne : ¬ (pre ++ [p] = []) := by simp
      have e1 : IntKind.i64.wrap (((pre ++ [p]).length : Int) - 1) = (pre.length : Int) := by rw [len_snoc]; exact wrap_pred (by omega)
      have e2 : (pre ++ [p] ++ s)[Int.toNat (pre.length : Int)]? = some p := by rw [mid_eq]; exact at_mid _ _ _
      simp only [cond_t h0, h00, cond_false, e1, e2, if_pos (Int.natCast_nonneg pre.length), Option.bind_some, iv_Meet2 k _ _ hk, get_mid _ p s _ (fitN_len pre (some p)), set_mid _ p _ s _ (fitN_len pre (some p)), hne, if_false]
      cases s with
      | nil =>
        have h1 : ¬ ((pre ++ [p]).length : Int) < ((pre ++ [p] ++ [] : List Sl).length : Int) := by simp
        simp only [cond_f h1]
        exact next _ (I.1, I.2.1, ()) _ (fun _ => by rw [fitN_snoc]; rfl) (fun _ _ h => by cases h)
      | cons y q =>
        have h1 : ((pre ++ [p]).length : Int) < ((pre ++ [p] ++ y :: q : List Sl).length : Int) := by simp; omega
        simp only [cond_t h1, if_pos (Int.natCast_nonneg (pre ++ [p]).length), at_mid, Option.bind_some]
        exact next _ (I.1, I.2.1, ()) _ (fun h => by cases h) (fun x q h => by cases h; rw [fitN_snoc]; simp [g2])
theorem cvoid_loop (k : Nat) (r : List Iv) (T : Tb) (D2 D3 D : Nm × Iv × List Sl) (I : Nm × Iv × Unit) : ∀ (m : Nat) (s pre : List Sl), s.length < m → pre.length + s.length ≤ 1000000 →
    flow_Contract_l3 k m ((r, (), (), (), (), (), (), (((pre ++ s).length : Nat) : Int), (pre.length : Int), ()), (T, D2, D3, I, D, noneI, pre.map voidS ++ s, ())) = some (Sum.inl ((r, (), (), (), (), (), ()), (T, D2, D3, I, D, (pre ++ s).map voidS, ()))) := by
  intro m
  induction m with
  | zero => intro s pre hm; omega
  | succ m IH =>
    intro s pre hm hl
    cases s with
    | nil => simp [flow_Contract_l3]
    | cons y s =>
      simp only [List.length_cons] at hm hl
      have ih := IH s (pre ++ [y]) (by omega) (by simp; omega)
      simp only [mid_eq, len_snoc] at ih
      simp only [flow_Contract_l3, cond_t (len_lt pre y s), if_pos (Int.natCast_nonneg pre.length), Option.bind_some, get_mid _ _ s pre.length (show (pre.map voidS).length = pre.length by simp), set_mid _ _ _ s pre.length (show (pre.map voidS).length = pre.length by simp), wrap_succ (show pre.length ≤ 1000000000 by omega)]
      rw [show pre.map voidS ++ (y.1, noneI, noneI) :: s = (pre ++ [y]).map voidS ++ s by simp [voidS], ih]
theorem rates_loop (k : Nat) (r : List Iv) (T : Tb) (D : Nm × Iv × List Sl) : ∀ (s pre : List Iv) (m : Nat), s.length < m → pre.length + s.length ≤ 1000000 → ∃ i : Nat,
    flow_Contract_l0 k m ((r, (), (), false, pre ++ s, (), ((pre ++ s).length : Int), (pre.length : Int), ()), (T, D, ())) = some (bif s.all mayI then Sum.inr (Sum.inl ((r, (), (), false, ()), (T, D, ()))) else Sum.inl ((r, (), (), false, (i : Int), ()), (T, D, ())))
  | [], pre, m + 1, hm, hl => ⟨0, by simp [flow_Contract_l0]⟩
  | x :: s, pre, m + 1, hm, hl => by
    simp only [List.length_cons] at hm hl
    obtain ⟨i, ih⟩ := rates_loop k r T D s (pre ++ [x]) m (by omega) (by simp; omega)
    rw [mid_eq, len_snoc] at ih
    cases hx : mayI x
    · refine ⟨pre.length, ?_⟩
      simp only [flow_Contract_l0, cond_t (len_lt pre x s), if_pos (Int.natCast_nonneg pre.length), at_mid, Option.bind_some, flow_Contract_1, iv_May_eq, hx, List.all_cons, Bool.false_and, Bool.not_false, cond_true, cond_false]
    · refine ⟨i, ?_⟩
      simp only [flow_Contract_l0, cond_t (len_lt pre x s), if_pos (Int.natCast_nonneg pre.length), at_mid, Option.bind_some, flow_Contract_1, iv_May_eq, hx, List.all_cons, Bool.true_and, Bool.not_true, cond_false, wrap_succ (show pre.length ≤ 1000000000 by omega)]
      exact ih
/-! ### Contract -/
def contractT (t : Tb) (r : List Iv) : Tb × Int :=
  if mayT t && decide (r.length = t.2.2.length) && r.all mayI then (fitT (bwds r t.2.2.length (fwds r t.2.2.length 0 (fitT t))), 0) else (zT, 1)
theorem wfI_g2 {s : Sl} (h : wfS s) {n : Option Sl} (hn : ∀ x, n = some x → wfS x) : wfI (g2 s n) := by
  cases n with
  | none => exact wfI_two h.2.2 h.2.1
  | some x => exact wfI_two (wfI_two h.2.2 h.2.1) (hn x rfl).2.1
theorem wfS_fitN : ∀ (l : List Sl) (n : Option Sl), (∀ s ∈ l, wfS s) → (∀ x, n = some x → wfS x) → ∀ s ∈ fitN l n, wfS s
  | [], n, h, hn, s, hs => by simp [fitN] at hs
  | y :: l, n, h, hn, s, hs => by
    rw [fitN_cons] at hs
    rcases List.mem_cons.1 hs with rfl | hs
    · have hy := h y (by simp)
      refine ⟨hy.1, hy.2.1, wfI_g2 hy fun x hx => ?_⟩
      cases l with
      | nil => exact hn x (by simpa using hx)
      | cons z l =>
        have : z = x := by simpa using hx
        exact this ▸ h z (by simp)
    · exact wfS_fitN l n (fun s hs => h s (by simp [hs])) hn s hs
theorem wfT_fitU {t : Tb} (h : wfT t) : wfT (fitU t) := by
  refine ⟨h.1, ?_, wfS_fitN _ _ h.2.2 (fun x hx => by cases hx)⟩
  show wfI (nx t.2.1 t.2.2)
  cases hl : t.2.2 with
  | nil => exact h.2.1
  | cons s l => exact wfI_two h.2.1 (h.2.2 s (by rw [hl]; simp)).2.1
theorem wfT_fitT {t : Tb} (h : wfT t) : wfT (fitT t) := by
  unfold fitT
  split
  · split
    · refine ⟨h.1, wfI_none, fun s hs => ?_⟩
      obtain ⟨x, hx, rfl⟩ := List.mem_map.1 hs
      exact ⟨(h.2.2 x hx).1, wfI_none, wfI_none⟩
    · exact wfT_fitU h
  · exact h
theorem mayT_fwds {r : List Iv} : ∀ {j i : Nat} {t : Tb}, mayT t = true → mayT (fwds r j i t) = true
  | 0, _, _, h => h
  | j + 1, i, t, h => mayT_fwds (j := j) (mayT_fwd h)
theorem wfT_fwds {r : List Iv} (hr : ∀ x ∈ r, wfI x) : ∀ {j i : Nat} {t : Tb}, i + j ≤ r.length → r.length = t.2.2.length → wfT t → wfT (fwds r j i t)
  | 0, _, _, _, _, h => h
  | j + 1, i, t, h1, h2, h => wfT_fwds hr (j := j) (by omega) (by rw [fwd_len]; exact h2) (wfT_fwd hr (by omega) h (by omega))
theorem flow_Contract_eq (k : Nat) (hk : 200 ≤ k) (t : Tb) (r : List Iv) (hw : wfT t) (hr : ∀ x ∈ r, wfI x) : flow_Contract k t r = some ((contractT t r).1, (contractT t r).2, ()) := by
  simp only [flow_Contract, tube_May_eq k (show 100 ≤ k by omega), Option.bind_some, contractT]
  cases hm : mayT t
  · rfl
  have hl := mayT_len hm
  rw [Bool.not_true, cond_false]
  by_cases hlen : r.length = t.2.2.length
  · have e : ((r.length : Int) != (t.2.2.length : Int)) = false := by simp [hlen]
    rw [e, cond_false]
    obtain ⟨i, h0⟩ := rates_loop k r t (zN, (false, zN, zN), []) r [] k (by omega) (by simp; omega)
    simp only [List.nil_append, List.length_nil] at h0
    rw [show ((0 : Nat) : Int) = 0 from rfl] at h0
    erw [h0]
    cases ha : r.all mayI
    · simp
    · simp only [cond_true, Option.bind_some, Sum.elim_inr, Sum.elim_inl, cond_false, hm, Bool.not_true, hlen, decide_true, Bool.and_self, if_true]
      have g1 : t.2.2.length * 176 ≤ 140737488355328 := by omega
      rw [if_pos g1, wrap_succ (show t.2.2.length ≤ 1000000000 by omega)]
      have hmU := mayT_fitU hm
      have hwU := wfT_fitU hw
      have hmF := mayT_fitT hm
      have hwF := wfT_fitT hw
      have hlF := fitT_len t
      obtain ⟨g', h2, rfl⟩ := cfit_loop k (by omega) r t (zN, (false, zN, zN), []) (zN, (false, zN, zN), []) t.1 t.2.1 k t.2.2 [] (t.1, t.2.1) (t.1, (t.2.1, ())) t.2.2 (by omega) (by simp; omega) rfl
      simp only [List.nil_append, List.length_nil, if_true] at h2
      rw [show ((0 : Nat) : Int) = 0 from rfl] at h2
      erw [h2]
      simp only [Option.bind_some, Sum.elim_inl, tube_Empty_eq k (show 100 ≤ k by omega)]
      have hU : (t.1, nx t.2.1 t.2.2, fitN t.2.2 none) = fitU t := rfl
      have tail : ∀ u : Tb, u = fitT t → (flow_Contract_l4 k k ((r, (), (), (), (), (), (), (u.2.2.length : Int), 0, ()), ((u.1, (u.2.1, ())), (zN, (false, zN, zN), []), u.2.2, (), r, true, ()))).bind (fun q95 =>
            Sum.elim (fun z156 =>
              (flow_Contract_l5 k k (((), (), (), (), (), (), (z156.2.2.2.1.length : Int), 0, ()), ((z156.2.1.1, (z156.2.1.2.1, ())), (z156.2.2.1.1, (z156.2.2.1.2.1, z156.2.2.1.2.2)), z156.2.2.2.1, (), z156.1.1, false, ()))).bind fun q157 =>
              Sum.elim (fun z158 =>
                (tube_Fit k (z158.2.1.1, z158.2.1.2.1, z158.2.2.2.1)).bind fun r159 =>
                some (r159.1, 0, ()))
               (fun q157' =>
                none) q157)
             (fun q95' =>
              none) q95) = (some (fitT (bwds r t.2.2.length (fwds r t.2.2.length 0 (fitT t))), 0, ()) : Option (HL [(.pair TNm (.pair TIv (.list TSl))), (.int .i64)])) := by
        intro u hu
        subst hu
        have f1 := fwd_loop k hk r hr (zN, (false, zN, zN), []) t.2.2.length k 0 (fitT t) t.2.2.length (by omega) (by omega) hlF.symm hlen.symm hmF hwF
        rw [hlF]
        rw [show ((0 : Nat) : Int) = 0 from rfl] at f1
        rw [f1]
        have l1 := fwds_len r t.2.2.length 0 (fitT t)
        have f2 := bwd_loop k hk r hr (zN, (false, zN, zN), []) t.2.2.length k 0 (fwds r t.2.2.length 0 (fitT t)) t.2.2.length (by omega) (by omega) (by rw [l1, hlF]) hlen.symm (mayT_fwds hmF) (wfT_fwds hr (by omega) (by rw [hlF]; exact hlen) hwF)
        rw [show ((0 : Nat) : Int) = 0 from rfl] at f2
        simp only [Option.bind_some, Sum.elim_inl, l1, hlF]
        erw [f2]
        simp only [Option.bind_some, Sum.elim_inl, tube_Fit_eq k hk]
      rw [hU, hmU]
      cases he : emptyT (fitU t)
      · have hF : fitT t = (t.1, nx t.2.1 t.2.2, fitN t.2.2 none) := by unfold fitT; rw [if_pos hm, if_neg (by rw [he]; decide)]; rfl
        have := tail _ hF.symm
        simp only [Bool.not_true, Bool.or_self, cond_false]
        exact this
      · have hF : fitT t = (t.1, noneI, t.2.2.map voidS) := by unfold fitT; rw [if_pos hm, if_pos he]
        have fl : (fitN t.2.2 none).length = t.2.2.length := fitN_len _ _
        have g2' : (fitN t.2.2 none).length * 176 ≤ 140737488355328 := by rw [fl]; exact g1
        have h3 := cvoid_loop k r t (zN, (false, zN, zN), []) (zN, (false, zN, zN), []) (zN, (false, zN, zN), []) (t.1, (noneI, ())) k (fitN t.2.2 none) [] (by rw [fl]; omega) (by rw [fl]; simp; omega)
        simp only [List.nil_append, List.length_nil, List.map_nil] at h3
        rw [show ((0 : Nat) : Int) = 0 from rfl] at h3
        simp only [Bool.not_true, Bool.false_or, cond_true, iv_None_eq, Option.bind_some, if_pos g2']
        erw [h3]
        simp only [Option.bind_some, Sum.elim_inl]
        rw [fitN_ends]
        have := tail _ hF.symm
        exact this
  · have e : ((r.length : Int) != (t.2.2.length : Int)) = true := by simp; omega
    rw [e, cond_true]
    simp [hlen]
/-! ### the laws of layer 18: what Contract gives is within what it was given -/
theorem awake18 : peloruslaw18_awake 200 = some (true, ()) := by kernel_rfl
/-- A tube of the same times, place by place within another. -/
def Inv (u t : Tb) : Prop := mayT u = true ∧ sameT u t = true ∧ allW u.2.2 t.2.2 = true ∧ within u.2.1 t.2.1 = true
theorem Inv.refl {t : Tb} (h : mayT t = true) : Inv t t := ⟨h, by simp [sameT], allW_refl _, within_refl _⟩
theorem allW_set' : ∀ {l q : List Sl} {i : Nat} {s : Sl}, allW l q = true → (i < l.length → wiS s (slG l i) = true) → allW (l.set i s) q = true
  | [], q, i, s, h, _ => by simpa using h
  | x :: l, [], i, s, h, _ => by cases i <;> simp [allW]
  | x :: l, y :: q, 0, s, h, hs => by
    have hs : wiS s x = true := hs (by simp)
    simp only [List.set_cons_zero, allW, Bool.and_eq_true, wiS] at *
    exact ⟨⟨within_trans hs.1 h.1.1, within_trans hs.2 h.1.2⟩, h.2⟩
  | x :: l, y :: q, i + 1, s, h, hs => by
    simp only [List.set_cons_succ, allW, Bool.and_eq_true] at *
    exact ⟨h.1, allW_set' h.2 fun hi => hs (by simpa using hi)⟩
theorem sameT_set {u t : Tb} {i : Nat} {s : Sl} (h : sameT u t = true) (h1 : s.1 = (slG u.2.2 i).1) : sameT (u.1, u.2.1, u.2.2.set i s) t = true := by
  simp only [sameT, Bool.and_eq_true, decide_eq_true_eq] at *
  rw [ends_set' h1]
  exact h
theorem Inv.fwd {r : List Iv} {u t : Tb} {i : Nat} (h : Inv u t) : Inv (fwd r u i) t :=
  ⟨mayT_fwd h.1, sameT_set h.2.1 rfl, allW_set' h.2.2.1 fun _ => by simp only [wiS, two_le_left, Bool.and_self], h.2.2.2⟩
theorem Inv.setG {u t : Tb} {x : Iv} {i : Nat} (h : Inv u t) (hi : i ≤ u.2.2.length) (hx : within x (gtN u i) = true) (hm : mayI x = true) : Inv (setG u x i) t := by
  cases i with
  | zero => exact ⟨mayT_setG h.1 hm hi, h.2.1, h.2.2.1, within_trans hx h.2.2.2⟩
  | succ i => exact ⟨mayT_setG h.1 hm hi, sameT_set h.2.1 rfl, allW_set' h.2.2.1 fun _ => by simp only [wiS, within_refl, Bool.true_and]; exact hx, h.2.2.2⟩
theorem Inv.bwd {r : List Iv} {u t : Tb} {i : Nat} (h : Inv u t) (hi : i < u.2.2.length) : Inv (bwd r u i) t := by
  have h1 := h.setG (i := i) (x := two (gtN u i) (subI (gtN u (i + 1)) (runA r u i))) (by omega) (two_le_left _ _) (mayI_two _ _)
  have hl : (slG u.2.2 i) = slG (Pl.setG u (two (gtN u i) (subI (gtN u (i + 1)) (runA r u i))) i).2.2 i := (slG_setG i).symm
  refine ⟨mayT_bwd h.1 hi, sameT_set h1.2.1 (by rw [← hl]), allW_set' h1.2.2.1 fun _ => ?_, h1.2.2.2⟩
  rw [← hl]
  simp only [wiS, two_le_left, within_refl, Bool.and_self]
theorem Inv.fwds {r : List Iv} {t : Tb} : ∀ {j i : Nat} {u : Tb}, Inv u t → Inv (fwds r j i u) t
  | 0, _, _, h => h
  | j + 1, i, u, h => Inv.fwds (j := j) h.fwd
theorem Inv.bwds {r : List Iv} {t : Tb} : ∀ {j : Nat} {u : Tb}, j ≤ u.2.2.length → Inv u t → Inv (bwds r j u) t
  | 0, _, _, h => h
  | j + 1, u, hj, h => Inv.bwds (j := j) (by rw [bwd_len]; omega) (h.bwd (by omega))
theorem allW_void : ∀ (l : List Sl), allW (l.map voidS) l = true
  | [] => rfl
  | x :: l => by simp [allW, wiS, voidS, within_none, allW_void l]
theorem Inv.fitT {t : Tb} (h : mayT t = true) : Inv (fitT t) t := by
  refine ⟨mayT_fitT h, sameT_fitT t, ?_, ?_⟩
  · unfold Pl.fitT
    rw [if_pos h]
    split
    · exact allW_void _
    · exact allW_fitN _ _
  · unfold Pl.fitT
    rw [if_pos h]
    split
    · exact within_none _
    · exact nx_le _ _
theorem contract_inv {t : Tb} {r : List Iv} (hm : mayT t = true) : Inv (bwds r t.2.2.length (fwds r t.2.2.length 0 (fitT t))) t :=
  Inv.bwds (by rw [fwds_len, fitT_len]; omega) (Inv.fwds (Inv.fitT hm))
theorem contract_within {t : Tb} {r : List Iv} (h : (contractT t r).2 = 0) : mayT (contractT t r).1 = true ∧ withinT (contractT t r).1 t = true := by
  unfold contractT at *
  split at h
  case isFalse => cases h
  rename_i hm
  rw [if_pos hm]
  simp only [Bool.and_eq_true] at hm
  have i := contract_inv (r := r) hm.1.1
  exact ⟨mayT_fitT i.1, withinT_fitT i.1 hm.1.1 i.2.1 i.2.2.1 i.2.2.2⟩
theorem contract_err {t : Tb} {r : List Iv} (h : (contractT t r).2 ≠ 0) : (contractT t r).1 = zT := by
  unfold contractT at *
  split
  · rename_i hm; rw [if_pos hm] at h; exact absurd rfl h
  · rfl
/-! ### what may be handed in: its numbers are of 64 bits -/
theorem okN {x : Nm} (h : okU TNm x) : wfN x := by
  have h1 : (Lit.int .u64 x.2.2.1).wf = true := h.2.2.1
  have := ((Lit.wf_int_iff .u64 x.2.2.1).1 h1).2
  have e : IntKind.max .u64 = 18446744073709551615 := by decide
  rw [e] at this
  unfold wfN
  omega
theorem okI {x : Iv} (h : okU TIv x) : wfI x := ⟨okN h.2.1, okN h.2.2⟩
theorem okIs {l : List Iv} (h : okU (.list TIv) l) : ∀ x ∈ l, wfI x := fun x hx => okI (h.2 x hx)
theorem okS' {x : Sl} (h : okU TSl x) : wfS x := ⟨okN h.1, okI h.2.1, okI h.2.2⟩
theorem okT {t : Tb} (h : okU (.pair TNm (.pair TIv (.list TSl))) t) : wfT t := ⟨okN h.1, okI h.2.1, fun s hs => okS' (h.2.2.2 s hs)⟩
/-! ### meets as greatest lower bounds -/
theorem within_antisymm {a b : Iv} (ha : mayI a = true) (hb : mayI b = true) (h1 : within a b = true) (h2 : within b a = true) : a = b := by
  rw [within_iff, fairI_may ha, fairI_may hb] at *
  cases ea : a.1
  · rcases h1 with h1 | ⟨h1, h3, h4⟩
    · rw [ea] at h1; cases h1
    · rcases h2 with h2 | ⟨_, h5, h6⟩
      · rw [h1] at h2; cases h2
      · obtain ⟨e1, m1, m2, _⟩ := mayI_full ha ea
        obtain ⟨e2, m3, m4, _⟩ := mayI_full hb h1
        have x1 := cmp_anti h3 h5
        have x2 := cmp_anti h4 h6
        rw [fair_may m3, fair_may m1] at x1
        rw [fair_may m2, fair_may m4] at x2
        rw [e1, e2, x1, x2]
  · rw [mayI_none ha ea]
    rw [ea] at h2
    rcases h2 with h2 | ⟨h2, _⟩
    · rw [mayI_none hb h2]
    · cases h2
theorem within_none_iff {z : Iv} {e : Iv} (he : (fairI e).1 = true) (h : within z e = true) : (fairI z).1 = true := by
  rw [within_iff] at h
  rcases h with h | ⟨h, _⟩
  · exact h
  · rw [he] at h; cases h
theorem within_of_none {z : Iv} (h : (fairI z).1 = true) (e : Iv) : within z e = true := by rw [within_iff]; exact .inl h
theorem meet_full {l : List Iv} (h : ∀ x ∈ l, (fairI x).1 = false) : meet l = mkI (most (losOf l)) (least (hisOf l)) := by
  unfold meet
  rw [if_pos]
  simp only [List.all_eq_true]
  intro x hx; simp [h x hx]
theorem mayI_meet (l : List Iv) : mayI (meet l) = true := by
  unfold meet; split
  · exact mayI_mkI _ _
  · exact mayI_noneI
theorem meet_le {l : List Iv} {x : Iv} (hx : x ∈ l) : within (meet l) x = true := by
  by_cases h : ∀ x ∈ l, (fairI x).1 = false
  · rw [within_iff, fairI_may (mayI_meet l), meet_full h]
    rcases mkI_cases (most (losOf l)) (least (hisOf l)) with e | ⟨e, _⟩ <;> rw [e]
    · exact .inl rfl
    · right
      simp only [cmp_fair_l, cmp_fair_r]
      exact ⟨h x hx, most_ge (mem_losOf.2 ⟨x, hx, h x hx, rfl⟩), least_le (mem_hisOf.2 ⟨x, hx, h x hx, rfl⟩)⟩
  · have : meet l = noneI := by
      unfold meet
      rw [if_neg]
      intro h2
      refine h fun y hy => ?_
      simp only [List.all_eq_true] at h2
      simpa using h2 y hy
    rw [this]; exact within_none _
theorem meet_glb {l : List Iv} {z : Iv} (hl : l ≠ []) (h : ∀ x ∈ l, within z x = true) : within z (meet l) = true := by
  cases hz : (fairI z).1
  · have hf : ∀ x ∈ l, (fairI x).1 = false := fun x hx => by
      cases hx1 : (fairI x).1
      · rfl
      · have := within_none_iff hx1 (h x hx); rw [hz] at this; cases this
    have g : ∀ x ∈ l, cmp (fairI x).2.1 (fairI z).2.1 ≤ 0 ∧ cmp (fairI z).2.2 (fairI x).2.2 ≤ 0 := fun x hx => by
      have := h x hx
      rw [within_iff, hz] at this
      rcases this with h | h
      · cases h
      · exact h.2
    obtain ⟨f1, f2, f3, f4, f5, f6⟩ := fair_low hz
    have a1 : cmp (most (losOf l)) (fairI z).2.1 ≤ 0 := most_le fun n hn => by
      obtain ⟨x, hx, _, rfl⟩ := mem_losOf.1 hn; exact (g x hx).1
    have a2 : cmp (fairI z).2.2 (least (hisOf l)) ≤ 0 := le_least fun n hn => by
      obtain ⟨x, hx, _, rfl⟩ := mem_hisOf.1 hn; exact (g x hx).2
    have e : meet l = (false, fair (most (losOf l)), fair (least (hisOf l))) := by
      rw [meet_full hf]
      refine mkI_may (cmp_le_trans a1 (cmp_le_trans f3 a2)) ?_ ?_
      · rw [fair_may (most_may _)]; exact ne_inf_of_le (most_may _) f1 a1 f4
      · rw [fair_may (least_may _)]; exact ne_inf_of_ge f2 (least_may _) a2 f5
    rw [within_iff, fairI_may (mayI_meet l), e]
    right
    simp only [cmp_fair_l, cmp_fair_r]
    exact ⟨trivial, a1, a2⟩
  · exact within_of_none hz _
theorem two_glb {a b z : Iv} (h1 : within z a = true) (h2 : within z b = true) : within z (two a b) = true := by
  rw [← meet_two]
  refine meet_glb (by simp) fun x hx => ?_
  simp only [List.mem_cons, List.not_mem_nil, or_false] at hx
  rcases hx with rfl | rfl
  · exact h1
  · exact h2
/-! the rate nought -/
abbrev zI : Iv := (false, zN, zN)
theorem mkI_zz : mkI zN zN = zI := by rw [mkI_point]; rfl
theorem mayI_zI : mayI zI = true := by decide
theorem bad_zI : bad zI = false := by decide
theorem addv_z {a : Nm} (up : Bool) : addv a zN up = a := by unfold addv; simp
theorem mulv_z (b : Nm) (up : Bool) : mulv zN b up = zN := by unfold mulv; simp
theorem fair_zN : fair zN = zN := rfl
theorem addI_z {x : Iv} (h : mayI x = true) : addI x zI = x := by
  unfold addI
  rw [bad_zI, Bool.or_false]
  cases hx : x.1
  · obtain ⟨e, m1, m2, m3, m4, m5⟩ := mayI_full h hx
    have hb : bad x = false := by unfold bad; rw [hx, h]; rfl
    rw [hb]
    simp only [Bool.false_eq_true, if_false, fair_zN, addv_z]
    rw [mkI_may (by simpa only [cmp_fair_l, cmp_fair_r] using m3) (by rw [fair_fair, fair_may m1]; exact m4) (by rw [fair_fair, fair_may m2]; exact m5), fair_fair, fair_fair, fair_may m1, fair_may m2]
    exact e.symm
  · have hb : bad x = true := by unfold bad; rw [hx]; rfl
    rw [hb, if_pos rfl, mayI_none h hx]
theorem negI_z : negI zI = zI := by decide
theorem subI_z {x : Iv} (h : mayI x = true) : subI x zI = x := by unfold subI; rw [negI_z, addI_z h]
theorem mulI_z {y : Iv} (h : bad y = false) : mulI zI y = zI := by
  unfold mulI
  rw [bad_zI, h]
  simp only [Bool.or_self, Bool.false_eq_true, if_false, fair_zN, mulv_z]
  have e1 : least [zN, zN, zN, zN] = zN := by decide
  have e2 : most [zN, zN, zN, zN] = zN := by decide
  rw [e1, e2, mkI_zz]
/-! the time of a step is above nought -/
theorem mag_lt {m1 m2 e1 e2 f : Int} (a1 : 9223372036854775808 ≤ m1) (a2 : m2 < 18446744073709551616) (b2 : 9223372036854775808 ≤ m2) (f1 : f ≤ e1) (f2 : f ≤ e2) (h : e2 < e1 ∨ e2 = e1 ∧ m2 < m1) : m2 * 2 ^ (e2 - f).toNat < m1 * 2 ^ (e1 - f).toNat := by
  rcases h with h | ⟨rfl, h⟩
  · obtain ⟨d, hd⟩ : ∃ d : Nat, (e1 - f).toNat = (d + 1) + (e2 - f).toNat := ⟨((e1 - f).toNat - (e2 - f).toNat) - 1, by omega⟩
    rw [hd, p2_add, ← Int.mul_assoc]
    refine mul_lt_p _ ?_
    have := p2_mono (i := 1) (j := d + 1) (by omega)
    rw [Int.pow_one] at this
    have := Int.mul_le_mul_of_nonneg_left this (show 0 ≤ m1 by omega)
    omega
  · exact mul_lt_p _ h
theorem grw_pos {q E : Int} (q0 : 9223372036854775808 ≤ q) (q1 : q < 18446744073709551616) (c : Bool) :
    cmp (grw false q E c false) (grw false q E c true) ≤ 0 ∧ grw false q E c false ≠ inf false ∧ grw false q E c true ≠ inf true ∧ cmp zN (grw false q E c true) ≤ 0 := by
  have m1 := fairP (grw_may (neg := false) (m := q) (e := E) (cut := c) (away := false) q0 q1)
  have m2 := fairP (grw_may (neg := false) (m := q) (e := E) (cut := c) (away := true) q0 q1)
  rw [cmp_le, cmp_le, m1, m2, fair_zN]
  unfold grw bnd tri tlt
  cases c
  · simp only [Bool.false_eq_true, false_and, and_false, if_false]
    by_cases h1 : E > 1048576
    · simp [h1]
    · by_cases h2 : E < -1048576
      · simp [h1, h2]
      · simp [h1, h2]
  · simp only [Bool.false_eq_true, true_and, and_false, if_false, and_true, if_true]
    by_cases h1 : E > 1048576
    · have h3 : E + 1 > 1048576 := by omega
      by_cases h4 : q + 1 = 18446744073709551616
      · simp [h1, h3, h4]
      · simp [h1, h4]
    · by_cases h2 : E < -1048576
      · have h3 : ¬ E + 1 > 1048576 := by omega
        by_cases h4 : q + 1 = 18446744073709551616
        · by_cases h5 : E + 1 < -1048576
          · simp [h1, h2, h3, h4, h5]
          · simp [h1, h2, h3, h4, h5]
        · simp [h1, h2, h4]
      · by_cases h4 : q + 1 = 18446744073709551616
        · by_cases h3 : E + 1 > 1048576
          · simp [h1, h2, h3, h4]
          · have h5 : ¬ E + 1 < -1048576 := by omega
            simp [h1, h2, h3, h4, h5]; omega
        · simp [h1, h2, h4]; omega
theorem sub_pos {a b : Nm} (ha : mayP a) (hb : mayP b) (ha2 : a.1 ≠ 2) (hb2 : b.1 ≠ 2) (h : cmp b a > 0) :
    cmp (addv b (ngv a) false) (addv b (ngv a) true) ≤ 0 ∧ addv b (ngv a) false ≠ inf false ∧ addv b (ngv a) true ≠ inf true ∧ cmp zN (addv b (ngv a) true) ≤ 0 := by
  rw [cmp_pos, cmp_lt, fairP ha, fairP hb] at h
  have one : ∀ n : Nm, mayP n → n.1 = 1 → n.2.1 = false → cmp n n ≤ 0 ∧ n ≠ inf false ∧ n ≠ inf true ∧ cmp zN n ≤ 0 := fun n hn h1 h2 => by
    refine ⟨by rw [cmp_self]; decide, fun e => absurd (e ▸ h1 : (inf false).1 = 1) (by decide), fun e => absurd (e ▸ h1 : (inf true).1 = 1) (by decide), ?_⟩
    rw [cmp_le, fairP hn, fair_zN]
    unfold tri tlt
    rw [h2]
    simp [h1]
  have val : ∀ s e : Int, 0 < s → cmp (rnz s e false) (rnz s e true) ≤ 0 ∧ rnz s e false ≠ inf false ∧ rnz s e true ≠ inf true ∧ cmp zN (rnz s e true) ≤ 0 := fun s e hs => by
    have e1 : ∀ up, rnz s e up = rnd false s e up := fun up => by
      unfold rnz
      rw [if_neg (by omega), decide_eq_false (by omega), Int.natAbs_of_nonneg (by omega)]
      cases up <;> rfl
    obtain ⟨q, E, c, hf⟩ := fit_ex e hs
    rw [e1, e1, rnd_fit hf, rnd_fit hf]
    exact grw_pos hf.1 hf.2.1 c
  obtain ⟨a1, an, am, ae⟩ := a
  obtain ⟨b1, bn, bm, be⟩ := b
  rcases ha with ⟨h1, h2, h3, h4⟩ | ⟨h1, h2, h3, h4, h5⟩ | ⟨h1, _⟩
  · simp only at h1 h2 h3 h4
    subst h1 h2 h3 h4
    rcases hb with ⟨g1, g2, g3, g4⟩ | ⟨g1, g2, g3, g4, g5⟩ | ⟨g1, _⟩
    · simp only at g1 g2 g3 g4
      subst g1 g2 g3 g4
      simp [tri, tlt] at h
    · simp only at g1; subst g1
      have hbn : bn = false := by cases bn <;> simp [tri, tlt] at h ⊢
      subst hbn
      have e : ∀ up, addv (1, false, bm, be) (ngv (0, false, 0, 0)) up = (1, false, bm, be) := fun up => by unfold addv ngv; simp
      rw [e, e]
      exact one _ (.inr (.inl ⟨rfl, g2, g3, g4, g5⟩)) rfl rfl
    · exact absurd g1 hb2
  · simp only at h1; subst h1
    rcases hb with ⟨g1, g2, g3, g4⟩ | ⟨g1, g2, g3, g4, g5⟩ | ⟨g1, _⟩
    · simp only at g1 g2 g3 g4
      subst g1 g2 g3 g4
      have han : an = true := by cases an <;> simp [tri, tlt] at h ⊢
      subst han
      have e : ∀ up, addv (0, false, 0, 0) (ngv (1, true, am, ae)) up = (1, false, am, ae) := fun up => by unfold addv ngv; simp
      rw [e, e]
      exact one _ (.inr (.inl ⟨rfl, h2, h3, h4, h5⟩)) rfl rfl
    · simp only at g1 g2 g3 g4 g5 h2 h3 h4 h5; subst g1
      have e : ngv (1, an, am, ae) = (1, !an, am, ae) := by unfold ngv; simp
      rw [e, addv_fin rfl rfl, addv_fin rfl rfl]
      refine val _ _ ?_
      simp only [exs]
      have p1 := Int.mul_pos (show 0 < bm by omega) (p2_pos (be - min be ae).toNat)
      have p2 := Int.mul_pos (show 0 < am by omega) (p2_pos (ae - min be ae).toNat)
      cases an <;> cases bn <;> simp [tri, tlt] at h <;> simp only [sg, Bool.not_false, Bool.not_true, if_true, Bool.false_eq_true, if_false, Int.neg_mul]
      · have := mag_lt (f := min be ae) g2 h3 h2 (by omega) (by omega) (by omega : ae < be ∨ ae = be ∧ am < bm)
        omega
      · omega
      · have := mag_lt (f := min be ae) h2 g3 g2 (by omega) (by omega) (by omega : be < ae ∨ be = ae ∧ bm < am)
        omega
    · exact absurd g1 hb2
  · exact absurd h1 ha2
/-! ### with every rate nought, each gate is the meet of all -/
theorem okS_lt {l : List Sl} : ∀ {w : Nm} {i : Nat}, okS w l = true → i < l.length → cmp (slG l i).1 (match i with | 0 => w | i + 1 => (slG l i).1) > 0 ∧ finite (slG l i).1 = true := by
  induction l with
  | nil => intro w i h hi; simp at hi
  | cons x l ih =>
    intro w i h hi
    simp only [okS, Bool.and_eq_true, decide_eq_true_eq] at h
    cases i with
    | zero => exact ⟨h.1.1.1.2, h.1.1.1.1⟩
    | succ i =>
      have := ih (i := i) h.2 (by simpa using hi)
      cases i with
      | zero => exact this
      | succ i => exact this
theorem time_fin {t : Tb} (h : mayT t = true) {i : Nat} (hi : i ≤ t.2.2.length) : finite (timeN t i) = true := by
  rw [mayT_iff] at h
  cases i with
  | zero => exact h.1
  | succ i => exact (okS_lt h.2.2.2 hi).2
theorem time_lt {t : Tb} (h : mayT t = true) {i : Nat} (hi : i < t.2.2.length) : cmp (timeN t (i + 1)) (timeN t i) > 0 := by
  rw [mayT_iff] at h
  have := (okS_lt h.2.2.2 hi).1
  cases i with
  | zero => exact this
  | succ i => exact this
theorem finite_iff {n : Nm} : finite n = true ↔ may n = true ∧ n.1 ≠ 2 := by
  simp [finite]
theorem dt_bad {t : Tb} (h : mayT t = true) (hw : wfT t) {i : Nat} (hi : i < t.2.2.length) : bad (dtI t i) = false ∧ bad (mkI zN (dtI t i).2.2) = false := by
  obtain ⟨f1, f2⟩ := finite_iff.1 (time_fin h (show i + 1 ≤ t.2.2.length by omega))
  obtain ⟨f3, f4⟩ := finite_iff.1 (time_fin h (show i ≤ t.2.2.length by omega))
  have p1 := mayP_of f1 (wfN_time hw (show i + 1 ≤ t.2.2.length by omega))
  have p2 := mayP_of f3 (wfN_time hw (show i ≤ t.2.2.length by omega))
  obtain ⟨a1, a2, a3, a4⟩ := sub_pos p2 p1 f4 f2 (time_lt h hi)
  have e : dtI t i = (false, addv (timeN t (i + 1)) (ngv (timeN t i)) false, addv (timeN t (i + 1)) (ngv (timeN t i)) true) := by
    have q : ∀ up, fair (addv (timeN t (i + 1)) (ngv (timeN t i)) up) = addv (timeN t (i + 1)) (ngv (timeN t i)) up := fun up => fairP (addv_may up p1 (ngv_may p2))
    unfold dtI
    rw [fairP p1, neg_eq p2, mkI_may a1 (by rw [q]; exact a2) (by rw [q]; exact a3), q, q]
  have m : ∀ x y : Nm, (mkI x y).1 = false → bad (mkI x y) = false := fun x y hh => by unfold bad; rw [hh, mayI_mkI]; rfl
  refine ⟨?_, ?_⟩
  · have := congrArg Prod.fst e
    exact m _ _ this
  · refine m _ _ ?_
    rw [e]
    simp only
    have q := fairP (addv_may true p1 (ngv_may p2))
    rw [mkI_may a4 (by rw [fair_zN]; decide) (by rw [q]; exact a3)]
/-- All rates are nought. -/
def Zr (r : List Iv) : Prop := ∀ i, i < r.length → rtG r i = zI
theorem run_z {r : List Iv} (hz : Zr r) {t : Tb} (h : mayT t = true) (hw : wfT t) {i : Nat} (hi : i < t.2.2.length) (hl : r.length = t.2.2.length) : runA r t i = zI ∧ runB r t i = zI := by
  obtain ⟨b1, b2⟩ := dt_bad h hw hi
  unfold runA runB
  rw [hz i (by omega), mulI_z b1, mulI_z b2]
  exact ⟨rfl, rfl⟩
theorem mayI_gt {t : Tb} (h : mayT t = true) {i : Nat} (hi : i ≤ t.2.2.length) : mayI (gtN t i) = true := by
  cases i with
  | zero => exact (mayT_iff.1 h).2.1
  | succ i => exact (mayT_sl h hi).2
theorem fwd_z {r : List Iv} (hz : Zr r) {t : Tb} (h : mayT t = true) (hw : wfT t) {i : Nat} (hi : i < t.2.2.length) (hl : r.length = t.2.2.length) :
    fwd r t i = (t.1, t.2.1, t.2.2.set i ((slG t.2.2 i).1, two (slG t.2.2 i).2.1 (gtN t i), two (slG t.2.2 i).2.2 (gtN t i))) := by
  obtain ⟨e1, e2⟩ := run_z hz h hw hi hl
  unfold fwd
  rw [e1, e2, addI_z (mayI_gt h (by omega))]
theorem bwd_z {r : List Iv} (hz : Zr r) {t : Tb} (h : mayT t = true) (hw : wfT t) {i : Nat} (hi : i < t.2.2.length) (hl : r.length = t.2.2.length) :
    bwd r t i = ((setG t (two (gtN t i) (gtN t (i + 1))) i).1, (setG t (two (gtN t i) (gtN t (i + 1))) i).2.1, (setG t (two (gtN t i) (gtN t (i + 1))) i).2.2.set i ((slG t.2.2 i).1, two (slG t.2.2 i).2.1 (gtN t (i + 1)), (slG t.2.2 i).2.2)) := by
  obtain ⟨e1, e2⟩ := run_z hz h hw hi hl
  unfold bwd
  rw [e1, e2, subI_z (mayI_gt h (show i + 1 ≤ t.2.2.length by omega))]
/-! the gates along the passes -/
theorem gt_fwd {r : List Iv} (hz : Zr r) {t : Tb} (h : mayT t = true) (hw : wfT t) {i : Nat} (hi : i < t.2.2.length) (hl : r.length = t.2.2.length) (b : Nat) :
    gtN (fwd r t i) b = if b = i + 1 then two (gtN t (i + 1)) (gtN t i) else gtN t b := by
  rw [fwd_z hz h hw hi hl]
  cases b with
  | zero => rw [if_neg (by omega)]; rfl
  | succ b =>
    simp only [gtN]
    by_cases e : b = i
    · subst e
      rw [if_pos rfl, slG_set_self hi]
    · rw [if_neg (by omega), slG_set_ne (by omega)]
theorem gt_bwd {r : List Iv} (hz : Zr r) {t : Tb} (h : mayT t = true) (hw : wfT t) {i : Nat} (hi : i < t.2.2.length) (hl : r.length = t.2.2.length) (b : Nat) :
    gtN (bwd r t i) b = if b = i then two (gtN t i) (gtN t (i + 1)) else gtN t b := by
  rw [bwd_z hz h hw hi hl]
  cases b with
  | zero =>
    cases i with
    | zero => rw [if_pos rfl]; rfl
    | succ i => rw [if_neg (by omega)]; rfl
  | succ b =>
    cases i with
    | zero =>
      rw [if_neg (by omega)]
      simp only [setG, gtN]
      by_cases e : b = 0
      · subst e; rw [slG_set_self hi]
      · rw [slG_set_ne (by omega)]
    | succ i =>
      simp only [setG, gtN]
      by_cases e1 : b = i + 1
      · subst e1
        rw [if_neg (by omega), slG_set_self (by simpa using hi)]
      · rw [slG_set_ne (by omega)]
        by_cases e2 : b = i
        · subst e2; rw [if_pos rfl, slG_set_self (by omega)]
        · rw [if_neg (by omega), slG_set_ne (by omega)]
theorem fwds_gates {r : List Iv} (hz : Zr r) (hr : ∀ x ∈ r, wfI x) (F : Tb) : ∀ (j i : Nat) (t : Tb), i + j = t.2.2.length → r.length = t.2.2.length → mayT t = true → wfT t →
    (∀ b, b ≤ t.2.2.length → within (gtN t b) (gtN F b) = true) → (∀ a b, a ≤ b → b ≤ i → within (gtN t b) (gtN F a) = true) →
    ∀ a b, a ≤ b → b ≤ t.2.2.length → within (gtN (fwds r j i t) b) (gtN F a) = true
  | 0, i, t, hi, hl, hm, hw, h1, h2, a, b, hab, hb => h2 a b hab (by omega)
  | j + 1, i, t, hi, hl, hm, hw, h1, h2, a, b, hab, hb => by
    have hit : i < t.2.2.length := by omega
    have g := gt_fwd hz hm hw hit hl
    have ln := fwd_len r t i
    refine fwds_gates hz hr F j (i + 1) (fwd r t i) (by omega) (by omega) (mayT_fwd hm) (wfT_fwd hr (by omega) hw hit) ?_ ?_ a b hab (by omega)
    · intro b hb
      rw [g b]
      split
      · rename_i e; subst e
        exact within_trans (two_le_left _ _) (h1 _ (by omega))
      · exact h1 b (by omega)
    · intro a b hab hb
      rw [g b]
      split
      · rename_i e; subst e
        by_cases ha : a = i + 1
        · subst ha; exact within_trans (two_le_left _ _) (h1 _ (by omega))
        · exact within_trans (two_le_right _ _) (h2 a i (by omega) (by omega))
      · exact h2 a b hab (by omega)
theorem bwds_gates {r : List Iv} (hz : Zr r) (hr : ∀ x ∈ r, wfI x) (F : Tb) : ∀ (j : Nat) (t : Tb), j ≤ t.2.2.length → r.length = t.2.2.length → mayT t = true → wfT t →
    (∀ a b, a ≤ t.2.2.length → j ≤ b → b ≤ t.2.2.length → within (gtN t b) (gtN F a) = true) →
    ∀ a b, a ≤ t.2.2.length → b ≤ t.2.2.length → within (gtN (bwds r j t) b) (gtN F a) = true
  | 0, t, hj, hl, hm, hw, h1, a, b, ha, hb => h1 a b ha (by omega) hb
  | j + 1, t, hj, hl, hm, hw, h1, a, b, ha, hb => by
    have hit : j < t.2.2.length := by omega
    have g := gt_bwd hz hm hw hit hl
    have ln := bwd_len r t j
    refine bwds_gates hz hr F j (bwd r t j) (by omega) (by omega) (mayT_bwd hm hit) (wfT_bwd hr (by omega) hw hit) ?_ a b (by omega) (by omega)
    intro a b ha hjb hb
    rw [g b]
    split
    · rename_i e; subst e
      exact within_trans (two_le_right _ _) (h1 a (b + 1) (by omega) (by omega) (by omega))
    · exact h1 a b (by omega) (by omega) (by omega)
/-! what is within everything stays so -/
def Under (M : Iv) (t : Tb) : Prop := within M t.2.1 = true ∧ ∀ s ∈ t.2.2, within M s.2.1 = true ∧ within M s.2.2 = true
theorem Under.gt {M : Iv} {t : Tb} (h : Under M t) {i : Nat} (hi : i ≤ t.2.2.length) : within M (gtN t i) = true := by
  cases i with
  | zero => exact h.1
  | succ i => exact (h.2 _ (slG_mem hi)).2
theorem Under.set {M : Iv} {t : Tb} (h : Under M t) {i : Nat} {s : Sl} (h1 : within M s.2.1 = true) (h2 : within M s.2.2 = true) : Under M (t.1, t.2.1, t.2.2.set i s) := by
  refine ⟨h.1, fun x hx => ?_⟩
  rcases List.mem_or_eq_of_mem_set hx with hx | rfl
  · exact h.2 x hx
  · exact ⟨h1, h2⟩
theorem Under.setG {M : Iv} {t : Tb} (h : Under M t) {i : Nat} {x : Iv} (hi : i ≤ t.2.2.length) (hx : within M x = true) : Under M (setG t x i) := by
  cases i with
  | zero => exact ⟨hx, h.2⟩
  | succ i => exact h.set (h.2 _ (slG_mem hi)).1 hx
theorem Under.fwd {M : Iv} {r : List Iv} (hz : Zr r) {t : Tb} (h : Under M t) (hm : mayT t = true) (hw : wfT t) {i : Nat} (hi : i < t.2.2.length) (hl : r.length = t.2.2.length) : Under M (fwd r t i) := by
  rw [fwd_z hz hm hw hi hl]
  have a := h.2 _ (slG_mem hi)
  have b := h.gt (show i ≤ t.2.2.length by omega)
  exact h.set (two_glb a.1 b) (two_glb a.2 b)
theorem Under.bwd {M : Iv} {r : List Iv} (hz : Zr r) {t : Tb} (h : Under M t) (hm : mayT t = true) (hw : wfT t) {i : Nat} (hi : i < t.2.2.length) (hl : r.length = t.2.2.length) : Under M (bwd r t i) := by
  rw [bwd_z hz hm hw hi hl]
  have a := h.2 _ (slG_mem hi)
  have b := h.gt (show i ≤ t.2.2.length by omega)
  have c := h.gt (show i + 1 ≤ t.2.2.length by omega)
  exact (h.setG (i := i) (by omega) (two_glb b c)).set (two_glb a.1 c) a.2
theorem Under.fwds {M : Iv} {r : List Iv} (hz : Zr r) (hr : ∀ x ∈ r, wfI x) : ∀ (j i : Nat) (t : Tb), i + j = t.2.2.length → r.length = t.2.2.length → mayT t = true → wfT t → Under M t → Under M (fwds r j i t)
  | 0, i, t, hi, hl, hm, hw, h => h
  | j + 1, i, t, hi, hl, hm, hw, h => by
    have ln := fwd_len r t i
    exact Under.fwds hz hr j (i + 1) _ (by omega) (by omega) (mayT_fwd hm) (wfT_fwd hr (by omega) hw (by omega)) (h.fwd hz hm hw (by omega) hl)
theorem Under.bwds {M : Iv} {r : List Iv} (hz : Zr r) (hr : ∀ x ∈ r, wfI x) : ∀ (j : Nat) (t : Tb), j ≤ t.2.2.length → r.length = t.2.2.length → mayT t = true → wfT t → Under M t → Under M (bwds r j t)
  | 0, t, hj, hl, hm, hw, h => h
  | j + 1, t, hj, hl, hm, hw, h => by
    have ln := bwd_len r t j
    exact Under.bwds hz hr j _ (by omega) (by omega) (mayT_bwd hm (by omega)) (wfT_bwd hr (by omega) hw (by omega)) (h.bwd hz hm hw (by omega) hl)
theorem Under.fitN {M : Iv} : ∀ (l : List Sl) (n : Option Sl), (∀ s ∈ l, within M s.2.1 = true ∧ within M s.2.2 = true) → (∀ x, n = some x → within M x.2.1 = true) → ∀ s ∈ fitN l n, within M s.2.1 = true ∧ within M s.2.2 = true
  | [], n, h, hn, s, hs => by simp [Pl.fitN] at hs
  | y :: l, n, h, hn, s, hs => by
    rw [fitN_cons] at hs
    rcases List.mem_cons.1 hs with rfl | hs
    · have hy := h y (by simp)
      refine ⟨hy.1, ?_⟩
      have hx : ∀ x, (l.head?.or n) = some x → within M x.2.1 = true := fun x hx => by
        cases l with
        | nil => exact hn x (by simpa using hx)
        | cons z l =>
          have : z = x := by simpa using hx
          exact this ▸ (h z (by simp)).1
      show within M (g2 y (l.head?.or n)) = true
      cases hq : l.head?.or n with
      | none => exact two_glb hy.2 hy.1
      | some x => exact two_glb (two_glb hy.2 hy.1) (hx x hq)
    · exact Under.fitN l n (fun s hs => h s (by simp [hs])) hn s hs
theorem Under.fitU {M : Iv} {t : Tb} (h : Under M t) : Under M (fitU t) := by
  refine ⟨?_, Under.fitN _ _ h.2 (fun x hx => by cases hx)⟩
  show within M (nx t.2.1 t.2.2) = true
  cases hl : t.2.2 with
  | nil => exact h.1
  | cons s l => exact two_glb h.1 (h.2 s (by rw [hl]; simp)).1
theorem mayI_fst {x : Iv} (h : x.1 = true) : (fairI x).1 = true := by
  unfold fairI; split
  · exact h
  · rfl
theorem Under.empty {M : Iv} {t : Tb} (h : Under M t) (he : emptyT t = true) : (fairI M).1 = true := by
  simp only [emptyT, Bool.or_eq_true, List.any_eq_true] at he
  rcases he with he | ⟨s, hs, he | he⟩
  · exact within_none_iff (mayI_fst he) h.1
  · exact within_none_iff (mayI_fst he) (h.2 s hs).1
  · exact within_none_iff (mayI_fst he) (h.2 s hs).2
theorem Under.none {M : Iv} (h : (fairI M).1 = true) (t : Tb) : Under M t := ⟨within_of_none h _, fun _ _ => ⟨within_of_none h _, within_of_none h _⟩⟩
theorem Under.fitT {M : Iv} {t : Tb} (h : Under M t) : Under M (fitT t) := by
  unfold Pl.fitT
  split
  · split
    · rename_i he; exact Under.none (h.fitU.empty he) _
    · exact h.fitU
  · exact h
/-! all the gates of a fitted tube, and the alongs -/
theorem fitT_gates {t : Tb} (h : mayT t = true) {z : Iv} (hz : ∀ a, a ≤ t.2.2.length → within z (gtN (fitT t) a) = true) : within z t.2.1 = true ∧ ∀ s ∈ t.2.2, within z s.2.1 = true ∧ within z s.2.2 = true := by
  have e : ∀ a, gtN (fitT t) a = if emptyT (fitU t) = true then (if a ≤ t.2.2.length then noneI else gtN (fitT t) a) else gtN (fitU t) a := fun a => by
    split
    · rename_i he
      split
      · rename_i ha
        unfold fitT
        rw [if_pos h, if_pos he]
        cases a with
        | zero => rfl
        | succ a =>
          simp only [gtN]
          have : slG (t.2.2.map voidS) a = voidS (slG t.2.2 a) := by
            unfold slG; rw [List.getElem?_map, List.getElem?_eq_getElem (show a < t.2.2.length from ha)]; rfl
          rw [this]; rfl
      · rfl
    · rename_i he
      unfold fitT
      rw [if_pos h, if_neg he]
  by_cases he : emptyT (fitU t) = true
  · have := hz 0 (by omega)
    rw [e, if_pos he, if_pos (by omega)] at this
    have hn := within_none_iff (e := noneI) (by rw [fairI_may mayI_noneI]) this
    exact ⟨within_of_none hn _, fun _ _ => ⟨within_of_none hn _, within_of_none hn _⟩⟩
  · have g : ∀ a, a ≤ t.2.2.length → within z (gtN (fitU t) a) = true := fun a ha => by
      have := hz a ha
      rwa [e, if_neg he] at this
    refine ⟨within_trans (g 0 (by omega)) (nx_le _ _), fun s hs => ?_⟩
    obtain ⟨i, hi, rfl⟩ := List.getElem_of_mem hs
    obtain ⟨o, ho⟩ := fitN_get t.2.2 none i hi
    have h1 := g (i + 1) (by omega)
    have : gtN (fitU t) (i + 1) = g2 t.2.2[i] o := by simp only [gtN, fitU, slG, ho]; rfl
    rw [this] at h1
    refine ⟨within_trans h1 ?_, within_trans h1 (g2_le _ _)⟩
    cases o with
    | none => exact two_le_right _ _
    | some x => exact within_trans (two_le_left _ _) (two_le_right _ _)
theorem gate_eq {t : Tb} (h : mayT t = true) {i : Nat} (hi : i ≤ t.2.2.length) : gateT t (i : Int) = gtN t i := by
  unfold gateT
  rw [if_pos ⟨h, by omega, by omega⟩]
  cases i with
  | zero => rfl
  | succ i =>
    rw [if_neg (by omega), show ((i + 1 : Nat) : Int) - 1 = (i : Int) by omega, Int.toNat_natCast, slG_eq hi]
    rfl
/-- The meet of all of a tube. -/
def mAll (M : Iv) (l : List Sl) : Iv := l.foldl (fun a s => meet [a, s.2.1, s.2.2]) M
theorem mAll_spec : ∀ (l : List Sl) (M : Iv), mayI M = true → mayI (mAll M l) = true ∧ within (mAll M l) M = true ∧ (∀ s ∈ l, within (mAll M l) s.2.1 = true ∧ within (mAll M l) s.2.2 = true) ∧
    ∀ z, within z M = true → (∀ s ∈ l, within z s.2.1 = true ∧ within z s.2.2 = true) → within z (mAll M l) = true
  | [], M, h => ⟨h, within_refl _, fun s hs => (by cases hs), fun z hz _ => hz⟩
  | x :: l, M, h => by
    obtain ⟨h1, h2, h3, h4⟩ := mAll_spec l (meet [M, x.2.1, x.2.2]) (mayI_meet _)
    refine ⟨h1, within_trans h2 (meet_le (by simp)), fun s hs => ?_, fun z hz hs => ?_⟩
    · rcases List.mem_cons.1 hs with rfl | hs
      · exact ⟨within_trans h2 (meet_le (by simp)), within_trans h2 (meet_le (by simp))⟩
      · exact h3 s hs
    · refine h4 z (meet_glb (by simp) fun y hy => ?_) fun s hs' => hs s (by simp [hs'])
      simp only [List.mem_cons, List.not_mem_nil, or_false] at hy
      rcases hy with rfl | rfl | rfl
      · exact hz
      · exact (hs x (by simp)).1
      · exact (hs x (by simp)).2
/-- What Contract gives, with every rate nought. -/
theorem still {t : Tb} {r : List Iv} (hm : mayT t = true) (hw : wfT t) (hr : ∀ x ∈ r, wfI x) (hz : Zr r) (hl : r.length = t.2.2.length) :
    (∀ i, i ≤ t.2.2.length → gateT (fitT (bwds r t.2.2.length (fwds r t.2.2.length 0 (fitT t)))) (i : Int) = mAll t.2.1 t.2.2) ∧
    emptyT (fitT (bwds r t.2.2.length (fwds r t.2.2.length 0 (fitT t)))) = (mAll t.2.1 t.2.2).1 := by
  obtain ⟨m1, m2, m3, m4⟩ := mAll_spec t.2.2 t.2.1 (mayT_iff.1 hm).2.1
  have hmF := mayT_fitT hm
  have hwF := wfT_fitT hw
  have lF := fitT_len t
  have hmv : mayT (fwds r t.2.2.length 0 (fitT t)) = true := mayT_fwds hmF
  have hwv : wfT (fwds r t.2.2.length 0 (fitT t)) := wfT_fwds hr (by omega) (by rw [lF]; exact hl) hwF
  have lv := fwds_len r t.2.2.length 0 (fitT t)
  have inv := contract_inv (r := r) hm
  have lu := bwds_len r t.2.2.length (fwds r t.2.2.length 0 (fitT t))
  have U : Under (mAll t.2.1 t.2.2) (bwds r t.2.2.length (fwds r t.2.2.length 0 (fitT t))) :=
    Under.bwds hz hr _ _ (by omega) (by omega) hmv hwv (Under.fwds hz hr _ _ _ (by omega) (by omega) hmF hwF (Under.fitT ⟨m2, m3⟩))
  have G : ∀ a b, a ≤ t.2.2.length → b ≤ t.2.2.length → within (gtN (bwds r t.2.2.length (fwds r t.2.2.length 0 (fitT t))) b) (gtN (fitT t) a) = true := by
    intro a b ha hb
    refine bwds_gates hz hr (fitT t) t.2.2.length _ (by omega) (by omega) hmv hwv ?_ a b (by omega) (by omega)
    intro a b ha h1 h2
    refine fwds_gates hz hr (fitT t) t.2.2.length 0 (fitT t) (by omega) (by omega) hmF hwF (fun b _ => within_refl _) ?_ a b (by omega) (by omega)
    intro a b ha hb
    have : a = b := by omega
    subst this; exact within_refl _
  have D : ∀ b, b ≤ t.2.2.length → within (gtN (bwds r t.2.2.length (fwds r t.2.2.length 0 (fitT t))) b) (mAll t.2.1 t.2.2) = true := by
    intro b hb
    obtain ⟨g1, g2⟩ := fitT_gates hm (z := gtN (bwds r t.2.2.length (fwds r t.2.2.length 0 (fitT t))) b) fun a ha => G a b ha hb
    exact m4 _ g1 g2
  generalize bwds r t.2.2.length (fwds r t.2.2.length 0 (fitT t)) = u at *
  have luT := fitT_len u
  have hmu := mayT_fitT inv.1
  have U2 := U.fitT
  have E : ∀ i, i ≤ t.2.2.length → gateT (fitT u) (i : Int) = mAll t.2.1 t.2.2 := by
    intro i hi
    have g := (gate_fitT inv.1 (i := (i : Int)) (by omega) (by omega)).1
    rw [gate_eq inv.1 (by omega)] at g
    rw [gate_eq hmu (by omega)] at g ⊢
    exact within_antisymm (mayI_gt hmu (by omega)) m1 (within_trans g (D i hi)) (U2.gt (by omega))
  refine ⟨E, ?_⟩
  cases hM : (mAll t.2.1 t.2.2).1
  · cases hE : emptyT (fitT u)
    · rfl
    · have := U2.empty hE
      rw [fairI_may m1, hM] at this
      cases this
  · have h0 := E 0 (by omega)
    rw [gate_eq hmu (by omega)] at h0
    have h0 : (fitT u).2.1 = mAll t.2.1 t.2.2 := h0
    simp [emptyT, h0, hM]
/-! ### the law FlowStill -/
theorem of_zero (k : Nat) : peloruslaw08_Of k 0 0 = some (zI, ()) := by
  have h : num_Of k 0 = some (zN, ()) := by
    simp only [num_Of]
    rw [cond_f (show ¬ (0 : Int) < 0 by decide), show IntKind.u64.wrap 0 = 0 from rfl, lz64 k (by decide) (by decide)]
    rfl
  simp only [peloruslaw08_Of, h, Option.bind_some, iv_Make_eq, mkI_zz]
theorem rep_rt (n : Nat) : Zr (List.replicate n zI) := by
  intro i hi
  unfold rtG
  rw [List.getElem?_eq_getElem hi]
  simp
/-! ### Reach; the laws FlowContracts and FlowReaches -/
def rl : List Nm → Int → Tb → Int × Tb
  | [], e, T => (e, T)
  | n :: s, e, T => if e = 0 then rl s (appT T n allI allI).2 (appT T n allI allI).1 else rl s e T
theorem rl_err : ∀ (s : List Nm) (e : Int) (T : Tb), e ≠ 0 → rl s e T = (e, T)
  | [], e, T, h => rfl
  | n :: s, e, T, h => by rw [rl, if_neg h, rl_err s e T h]
def reachT (x0 : Nm) (x1 : Iv) (x2 : List Nm) (x3 : List Iv) : Tb × Int :=
  if x2.length = x3.length then (if (rl x2 (newT x0 x1).2 (newT x0 x1).1).1 = 0 then contractT (rl x2 (newT x0 x1).2 (newT x0 x1).1).2 x3 else (zT, (rl x2 (newT x0 x1).2 (newT x0 x1).1).1)) else (zT, 1)
theorem wfI_all : wfI allI := ⟨wfN_inf _, wfN_inf _⟩
theorem wfT_zT : wfT zT := ⟨wfN_zN, ⟨wfN_zN, wfN_zN⟩, fun s hs => by cases hs⟩
theorem wfT_new {n : Nm} {x : Iv} (hn : wfN n) (hx : wfI x) : wfT (newT n x).1 := by
  unfold newT; split
  · exact ⟨hn, hx, fun s hs => by cases hs⟩
  · exact wfT_zT
theorem wfT_app {T : Tb} {n : Nm} (h : wfT T) (hn : wfN n) : wfT (appT T n allI allI).1 := by
  unfold appT
  split
  · split
    · exact wfT_zT
    · split
      · exact wfT_zT
      · refine ⟨h.1, h.2.1, fun s hs => ?_⟩
        rcases List.mem_append.1 hs with hs | hs
        · exact h.2.2 s hs
        · rw [List.mem_singleton.1 hs]; exact ⟨hn, wfI_all, wfI_all⟩
  · exact wfT_zT
theorem wfT_rl : ∀ (s : List Nm) (e : Int) (T : Tb), (∀ n ∈ s, wfN n) → wfT T → wfT (rl s e T).2
  | [], e, T, _, h => h
  | n :: s, e, T, hs, h => by
    rw [rl]
    split
    · exact wfT_rl s _ _ (fun m hm => hs m (by simp [hm])) (wfT_app h (hs n (by simp)))
    · exact wfT_rl s _ _ (fun m hm => hs m (by simp [hm])) h
theorem reach_loop (k : Nat) (hk : 100 ≤ k) (r : List Iv) (D : Nm × Iv × List Sl) : ∀ (m : Nat) (s pre : List Nm) (e : Int) (T : Tb), s.length < m → pre.length + s.length ≤ 1000000 →
    flow_Reach_l0 k m ((r, (), (), e, pre ++ s, ((pre ++ s).length : Int), (pre.length : Int), ()), (D, T, ())) = some (Sum.inl ((r, (), (), (rl s e T).1, ()), (D, (rl s e T).2, ()))) := by
  intro m
  induction m with
  | zero => intro s pre e T hm; omega
  | succ m IH =>
    intro s pre e T hm hl
    cases s with
    | nil => simp [flow_Reach_l0, rl]
    | cons x s =>
      simp only [List.length_cons] at hm hl
      have ih := fun e T => IH s (pre ++ [x]) e T (by omega) (by simp; omega)
      simp only [mid_eq, len_snoc] at ih
      simp only [flow_Reach_l0, cond_t (len_lt pre x s), if_pos (Int.natCast_nonneg pre.length), at_mid, Option.bind_some, iv_All_eq, tube_Append_eq k hk, wrap_succ (show pre.length ≤ 1000000000 by omega), rl]
      by_cases h : e = 0
      · rw [beq_t h, cond_true, if_pos h]; exact ih _ _
      · rw [beq_f h, cond_false, if_neg h]; exact ih _ _
theorem flow_Reach_eq (k : Nat) (hk : 200 ≤ k) (x0 : Nm) (x1 : Iv) (x2 : List Nm) (x3 : List Iv) (h0 : wfN x0) (h1 : wfI x1) (h2 : ∀ n ∈ x2, wfN n) (h3 : ∀ x ∈ x3, wfI x) (hl : x2.length ≤ 100) :
    flow_Reach k x0 x1 x2 x3 = some ((reachT x0 x1 x2 x3).1, (reachT x0 x1 x2 x3).2, ()) := by
  unfold reachT
  by_cases hlen : x2.length = x3.length
  · have e : ((x2.length : Int) != (x3.length : Int)) = false := by simp [hlen]
    have L := reach_loop k (by omega) x3 (zN, (false, zN, zN), []) k x2 [] (newT x0 x1).2 (newT x0 x1).1 (by omega) (by simp; omega)
    simp only [List.nil_append, List.length_nil] at L
    rw [show ((0 : Nat) : Int) = 0 from rfl] at L
    simp only [flow_Reach, e, cond_false, tube_New_eq k (show 100 ≤ k by omega), Option.bind_some]
    erw [L]
    rw [if_pos hlen]
    simp only [Option.bind_some, Sum.elim_inl]
    by_cases h : (rl x2 (newT x0 x1).2 (newT x0 x1).1).1 = 0
    · have hz : ((rl x2 (newT x0 x1).2 (newT x0 x1).1).1 != 0) = false := by simp [h]
      rw [if_pos h, hz, cond_false, flow_Contract_eq k hk _ x3 (wfT_rl _ _ _ h2 (wfT_new h0 h1)) h3]
      rfl
    · have hz : ((rl x2 (newT x0 x1).2 (newT x0 x1).1).1 != 0) = true := by simp [h]
      rw [if_neg h, hz, cond_true]
  · have e : ((x2.length : Int) != (x3.length : Int)) = true := by simp; omega
    simp only [flow_Reach, e, cond_true]
    rw [if_neg hlen]
/-! what wakes the laws -/
theorem num_Of_k (k : Nat) (x : Int) : num_Of k x = num_Of 200 x := rfl
theorem law_Of_k (k : Nat) (x y : Int) : peloruslaw08_Of k x y = peloruslaw08_Of 200 x y := rfl
theorem awake_all (k : Nat) (hk : 200 ≤ k) : peloruslaw18_awake k = some (true, ()) := by
  obtain ⟨n0, e0, w0⟩ : ∃ n, num_Of 200 0 = some (n, ()) ∧ wfN n := ⟨zN, by kernel_rfl, wfN_zN⟩
  obtain ⟨n1, e1, w1⟩ : ∃ n, num_Of 200 1 = some (n, ()) ∧ wfN n := ⟨(1, false, 9223372036854775808, -63), by kernel_rfl, by unfold wfN; decide⟩
  obtain ⟨n2, e2, w2⟩ : ∃ n, num_Of 200 2 = some (n, ()) ∧ wfN n := ⟨(1, false, 9223372036854775808, -62), by kernel_rfl, by unfold wfN; decide⟩
  have q00 : peloruslaw08_Of 200 0 0 = some (mkI n0 n0, ()) := by simp only [peloruslaw08_Of, e0, Option.bind_some, iv_Make_eq]
  have q12 : peloruslaw08_Of 200 1 2 = some (mkI n1 n2, ()) := by simp only [peloruslaw08_Of, e1, e2, Option.bind_some, iv_Make_eq]
  have q02 : peloruslaw08_Of 200 0 2 = some (mkI n0 n2, ()) := by simp only [peloruslaw08_Of, e0, e2, Option.bind_some, iv_Make_eq]
  have R : ∀ k, 200 ≤ k → flow_Reach k n0 (mkI n0 n0) [n1, n2] [mkI n1 n2, mkI n0 n0] = some ((reachT n0 (mkI n0 n0) [n1, n2] [mkI n1 n2, mkI n0 n0]).1, (reachT n0 (mkI n0 n0) [n1, n2] [mkI n1 n2, mkI n0 n0]).2, ()) := fun k hk =>
    flow_Reach_eq k hk _ _ _ _ w0 (wfI_mkI w0 w0) (fun n hn => by
      simp only [List.mem_cons, List.not_mem_nil, or_false] at hn
      rcases hn with rfl | rfl
      · exact w1
      · exact w2) (fun x hx => by
      simp only [List.mem_cons, List.not_mem_nil, or_false] at hx
      rcases hx with rfl | rfl
      · exact wfI_mkI w1 w2
      · exact wfI_mkI w0 w0) (by simp)
  have h := awake18
  simp only [peloruslaw18_awake, e0, e1, e2, q00, q12, q02, Option.bind_some, R 200 (by decide)] at h
  simp only [peloruslaw18_awake, num_Of_k k, law_Of_k k, e0, e1, e2, q00, q12, q02, Option.bind_some, R k hk]
  exact h
/-! Plain answers -/
def plainL (b : List Iv) (x : Sl) : List Iv := ((b ++ [x.2.1]) ++ [x.2.2]) ++ [mkI x.1 x.1]
theorem plainL_len (b : List Iv) (x : Sl) : (plainL b x).length = b.length + 3 := by simp [plainL]
theorem lenadd {α : Type} (a : List α) (x : α) (h : a.length ≤ 2000) : (a.length + [x].length) * 72 ≤ 140737488355328 := by
  rw [List.length_singleton]; omega
theorem plain_step (k m : Nat) (r : List Iv) (t : Tb) (x : Sl) (i : Nat) (b : List Iv) (hi : i < t.2.2.length) (hx : t.2.2[i]? = some x) (hi2 : i ≤ 1000) (hb : b.length ≤ 1000) :
    peloruslaw18_Plain_l0 k (m + 1) ((r, (), (), (i : Int), ()), (t, b, ())) = peloruslaw18_Plain_l0 k m ((r, (), (), ((i + 1 : Nat) : Int), ()), (t, plainL b x, ())) := by
  have g1 := lenadd b x.2.1 (by omega)
  have g2 := lenadd (b ++ [x.2.1]) x.2.2 (by rw [len_snoc]; omega)
  have g3 := lenadd ((b ++ [x.2.1]) ++ [x.2.2]) (mkI x.1 x.1) (by rw [len_snoc, len_snoc]; omega)
  have e : (i : Int) < (t.2.2.length : Int) := by omega
  simp only [peloruslaw18_Plain_l0, cond_t e, if_pos (Int.natCast_nonneg i), Int.toNat_natCast, hx, Option.bind_some, if_pos g1, if_pos g2, iv_Point_eq, if_pos g3, wrap_succ (show i ≤ 1000000000 by omega)]
  rfl
theorem plain_loop0 (k : Nat) (r : List Iv) (t : Tb) (ht : t.2.2.length ≤ 20) : ∀ (j i m : Nat) (b : List Iv), i + j = t.2.2.length → j < m → b.length + 3 * j ≤ 200 →
    ∃ b', b'.length = b.length + 3 * j ∧ peloruslaw18_Plain_l0 k m ((r, (), (), (i : Int), ()), (t, b, ())) = some (Sum.inl ((r, (), ()), (b', ()))) := by
  intro j
  induction j with
  | zero =>
    intro i m b hi hm hb
    obtain ⟨m, rfl⟩ : ∃ q, m = q + 1 := ⟨m - 1, by omega⟩
    have e : ¬ (i : Int) < (t.2.2.length : Int) := by omega
    exact ⟨b, rfl, by simp only [peloruslaw18_Plain_l0, cond_f e]⟩
  | succ j IH =>
    intro i m b hi hm hb
    obtain ⟨m, rfl⟩ : ∃ q, m = q + 1 := ⟨m - 1, by omega⟩
    have hit : i < t.2.2.length := by omega
    have hl := plainL_len b (slG t.2.2 i)
    have q1 : i + 1 + j = t.2.2.length := by omega
    have q2 : j < m := by omega
    have q3 : (plainL b (slG t.2.2 i)).length + 3 * j ≤ 200 := by omega
    obtain ⟨b', h1, h2⟩ := IH (i + 1) m (plainL b (slG t.2.2 i)) q1 q2 q3
    refine ⟨b', by omega, ?_⟩
    rw [plain_step k m r t (slG t.2.2 i) i b hit (slG_eq hit) (by omega) (by omega)]
    exact h2
theorem plain_loop1 (k : Nat) : ∀ (s pre : List Iv) (m : Nat), s.length < m → pre.length + s.length ≤ 1000000 →
    peloruslaw18_Plain_l1 k m (((), (pre.length : Int), ()), (pre ++ s, ())) = some (Sum.inl ((false, ()), ())) ∨ peloruslaw18_Plain_l1 k m (((), (pre.length : Int), ()), (pre ++ s, ())) = some (Sum.inr (Sum.inl ((), ())))
  | [], pre, m + 1, hm, hl => by right; simp [peloruslaw18_Plain_l1]
  | x :: s, pre, m + 1, hm, hl => by
    simp only [List.length_cons] at hm hl
    have ih := plain_loop1 k s (pre ++ [x]) m (by omega) (by simp; omega)
    rw [mid_eq, len_snoc] at ih
    simp only [peloruslaw18_Plain_l1, cond_t (len_lt pre x s), if_pos (Int.natCast_nonneg pre.length), at_mid, Option.bind_some, wrap_succ (show pre.length ≤ 1000000000 by omega)]
    by_cases c1 : x.2.1.2.2.2 > 300
    · rw [cond_t c1]; exact .inl rfl
    · rw [cond_f c1]
      by_cases c2 : x.2.1.2.2.2 < -300
      · rw [cond_t c2]; exact .inl rfl
      · rw [cond_f c2]
        by_cases c3 : x.2.2.2.2.2 > 300
        · rw [cond_t c3]; exact .inl rfl
        · rw [cond_f c3]
          by_cases c4 : x.2.2.2.2.2 < -300
          · rw [cond_t c4]; exact .inl rfl
          · rw [cond_f c4]; exact ih
theorem plain_tot (k : Nat) (hk : 200 ≤ k) (t : Tb) (r : List Iv) : ∃ b : Bool, peloruslaw18_Plain k t r = some (b, ()) ∧ (b = true → t.2.2.length ≤ 20 ∧ r.length ≤ 20) := by
  simp only [peloruslaw18_Plain, iv_Point_eq, Option.bind_some]
  by_cases c1 : (t.2.2.length : Int) > 20
  · exact ⟨false, by rw [cond_t c1], fun h => by cases h⟩
  · by_cases c2 : (r.length : Int) > 20
    · exact ⟨false, by rw [cond_f c1, cond_t c2], fun h => by cases h⟩
    · rw [cond_f c1, cond_f c2]
      obtain ⟨b, h1, h2⟩ := plain_loop0 k r t (by omega) t.2.2.length 0 k [t.2.1, mkI t.1 t.1] (by omega) (by omega) (by simp only [List.length_cons, List.length_nil]; omega)
      rw [show ((0 : Nat) : Int) = 0 from rfl] at h2
      erw [h2]
      simp only [List.length_cons, List.length_nil] at h1
      have gl : (b.length + r.length) * 72 ≤ 140737488355328 := by omega
      have L := plain_loop1 k (b ++ r) [] k (by simp; omega) (by simp; omega)
      simp only [List.nil_append, List.length_nil] at L
      rw [show ((0 : Nat) : Int) = 0 from rfl] at L
      simp only [Option.bind_some, Sum.elim_inl, if_pos gl]
      rcases L with L | L
      · erw [L]; exact ⟨false, rfl, fun h => by cases h⟩
      · erw [L]; exact ⟨true, rfl, fun _ => ⟨by omega, by omega⟩⟩
theorem contract_len (t : Tb) (r : List Iv) : (contractT t r).1.2.2.length ≤ t.2.2.length := by
  unfold contractT
  split
  · simp only [fitT_len, bwds_len, fwds_len]; omega
  · exact Nat.zero_le _
theorem app_len' (T : Tb) (n : Nm) (a o : Iv) : (appT T n a o).1.2.2.length ≤ T.2.2.length + 1 := by
  unfold appT
  repeat' split
  all_goals simp
theorem rl_len : ∀ (s : List Nm) (e : Int) (T : Tb), (rl s e T).2.2.2.length ≤ T.2.2.length + s.length
  | [], e, T => by simp [rl]
  | n :: s, e, T => by
    rw [rl]
    split
    · have := rl_len s (appT T n allI allI).2 (appT T n allI allI).1
      have := app_len' T n allI allI
      simp only [List.length_cons]; omega
    · have := rl_len s e T
      simp only [List.length_cons]; omega
theorem new_len (n : Nm) (x : Iv) : (newT n x).1.2.2.length = 0 := by unfold newT; split <;> rfl
theorem reach_len (x0 : Nm) (x1 : Iv) (x2 : List Nm) (x3 : List Iv) : (reachT x0 x1 x2 x3).1.2.2.length ≤ x2.length := by
  unfold reachT
  split
  · split
    · have := contract_len (rl x2 (newT x0 x1).2 (newT x0 x1).1).2 x3
      have h := rl_len x2 (newT x0 x1).2 (newT x0 x1).1
      rw [new_len] at h
      omega
    · exact Nat.zero_le _
  · exact Nat.zero_le _
theorem okNs {l : List Nm} (h : okU (.list TNm) l) : ∀ n ∈ l, wfN n := fun n hn => okN (h.2 n hn)
end Go.Proofs.YtjjhfhhoefdjaaaGreatDoor.Rf.Pl
