/- Whole numbers as numbers of 64 bits; what wakes the statements of layer 2. -/
import Derived.Test.YtbejmpocgnldnaaPZx1
import Derived.Test.YtbejmpocgnldnaaTI
namespace Go.Proofs.Ytbejmpocgnldnaa.T
set_option linter.unusedVariables false
set_option linter.unusedSimpArgs false
open Go.RowKit Go.Proofs.YtbejmpocgnldnaaW.PrintWords Go.Proofs.YtbejmpocgnldnaaW.PrintMore Go.Proofs.Ytbejmpocgnldnaa.PZ

/-- The number, if 64 bits hold it. -/
def intv (s : Int) : Int × Bool := if -9223372036854775808 ≤ s ∧ s < 9223372036854775808 then (s, true) else (0, false)
theorem wr64 (x : Int) : wrap64 x = (x + 9223372036854775808) % 18446744073709551616 - 9223372036854775808 := by unfold wrap64; omega
/-- What comes behind the loop. -/
theorem int_end (k : Nat) (u : Int) (l m : List Int) (b : Bool) (i : Int) (u0 : 0 ≤ u) (u1 : u < 18446744073709551616) (hi : ¬ i < (l.length : Int)) :
    whole_Int.l0 (k + 1) u l (l.length : Int) i b m = some (intv (sg b u)) := by
  simp only [whole_Int.l0]
  rw [if_neg hi]
  have e1 : wrap64 u = if u < 9223372036854775808 then u else u - 18446744073709551616 := by rw [wr64]; split <;> omega
  have e2 : wrap64 (-(wrap64 u)) = if u ≤ 9223372036854775808 then -u else 18446744073709551616 - u := by
    rw [e1]
    split
    · rw [wr64]; split <;> omega
    · rw [wr64]; split <;> omega
  cases b
  · rw [if_neg (by decide), e1]
    unfold intv sg
    simp only [Bool.false_eq_true, if_false]
    by_cases z : u = 0
    · subst z; rfl
    · by_cases h : u < 9223372036854775808
      · rw [if_pos h, if_neg z, if_neg z, decide_eq_false (by omega), if_pos (by decide), if_pos (by omega)]
      · rw [if_neg h, if_neg (by omega), if_neg z, decide_eq_true (by omega), if_neg (by decide), if_neg (by omega)]
  · rw [if_pos rfl, e2]
    unfold intv sg
    simp only [if_true]
    by_cases z : u = 0
    · subst z; rfl
    · by_cases h : u ≤ 9223372036854775808
      · rw [if_pos h, if_neg (by omega), if_neg z, decide_eq_true (by omega), if_pos (by decide), if_pos (by omega)]
      · rw [if_neg h, if_neg (by omega), if_neg z, decide_eq_false (by omega), if_neg (by decide), if_neg (by omega)]
theorem int_step (k : Nat) (u : Int) (l m : List Int) (b : Bool) (i : Nat) (h : i < l.length) (hb : l.length ≤ 2) (hu : U l) :
    whole_Int.l0 (k + 1) u l (l.length : Int) (i : Int) b m = whole_Int.l0 k (Go.bits .or .u64 u (shl .u64 (l.getD i 0) ((32 * i : Nat) : Int))) l (l.length : Int) ((i + 1 : Nat) : Int) b m := by
  have hg := U_getD hu i
  simp only [whole_Int.l0, rd_eq, Int.toNat_natCast]
  have e : wrap64 (32 * (i : Int)) = ((32 * i : Nat) : Int) := by rw [w64 (by omega) (by omega)]; omega
  rw [if_pos (by omega), if_pos (by omega), if_pos (by omega), e, if_pos (by omega), u64w (x := l.getD i 0) (by omega) (by omega), w64_succ (by omega)]
theorem or64_zero {m : Int} (hm0 : 0 ≤ m) (hm1 : m < 18446744073709551616) : Go.bits .or .u64 0 m = m := by
  have e64 : (2 : Int) ^ 64 = 18446744073709551616 := rfl
  have := bits_join .u64 64 (by decide) wraps_u64 64 0 m (by decide) (by decide) (by decide) hm0 (by omega) (by omega)
  omega
theorem int_ev (b : Bool) (l : List Int) (h : U l) (hb : l.length ≤ 1073741824) : ∃ K, ∀ k, K ≤ k → whole_Int.f k b l = some (intv (sg b (val l))) := by
  obtain ⟨K, hK⟩ := trim_ev l h hb
  have nl := val_nonneg h
  refine ⟨K + 4, fun k hk => ?_⟩
  obtain ⟨k, rfl⟩ : ∃ m, k = m + 4 := ⟨k - 4, by omega⟩
  unfold whole_Int.f
  rw [hK _ (by omega), Option.bind_some]
  by_cases hl : (lim (val l)).length > 2
  · rw [if_pos (by omega)]
    have hv : ¬ val l < 18446744073709551616 := fun hv => by
      have := lim_len nl 2 (by rw [show pw 2 = 18446744073709551616 by decide]; exact hv)
      omega
    have hs : ¬ (-9223372036854775808 ≤ sg b (val l) ∧ sg b (val l) < 9223372036854775808) := by unfold sg; split <;> omega
    unfold intv
    rw [if_neg hs]
  · rw [if_neg (by omega)]
    have u := U_lim nl
    have hv := val_lim nl
    have hn := val_lt u
    generalize lim (val l) = x at *
    have hl2 : x.length ≤ 2 := by omega
    match x, hl2, u, hv with
    | [], _, _, hv =>
      have : (0 : Int) = val l := hv
      rw [← this]
      exact int_end _ 0 [] l b 0 (by decide) (by decide) (by decide)
    | [p], hl, u, hv =>
      have hp := u p (by simp)
      have e : val l = p := by rw [← hv]; simp
      have s := int_step (k + 3) 0 [p] l b 0 (by simp) (by simp) u
      refine s.trans ?_
      have e1 : Go.bits .or .u64 0 (shl .u64 ([p].getD 0 0) ((32 * 0 : Nat) : Int)) = p := by
        have := (shl_eq (x := p) (s := 0) hp.1 (by decide) hp.2).1
        rw [Int.pow_zero, Int.mul_one] at this
        rw [show [p].getD 0 0 = p from rfl, show 32 * 0 = 0 from rfl, this, or64_zero (by omega) (by omega)]
      rw [e1, e]
      exact int_end _ p [p] l b _ (by omega) (by omega) (by simp)
    | [p, q], hl, u, hv =>
      have hp := u p (by simp)
      have hq := u q (by simp)
      have e : val l = p + 4294967296 * q := by rw [← hv]; simp
      have s := int_step (k + 3) 0 [p, q] l b 0 (by simp) (by simp) u
      refine s.trans ?_
      have e1 : Go.bits .or .u64 0 (shl .u64 ([p, q].getD 0 0) ((32 * 0 : Nat) : Int)) = p := by
        have := (shl_eq (x := p) (s := 0) hp.1 (by decide) hp.2).1
        rw [Int.pow_zero, Int.mul_one] at this
        rw [show [p, q].getD 0 0 = p from rfl, show 32 * 0 = 0 from rfl, this, or64_zero (by omega) (by omega)]
      rw [e1]
      have s2 := int_step (k + 2) p [p, q] l b 1 (by simp) (by simp) u
      refine s2.trans ?_
      have e2 : Go.bits .or .u64 p (shl .u64 ([p, q].getD 1 0) ((32 * 1 : Nat) : Int)) = p + 4294967296 * q := by
        have := (shl_eq (x := q) (s := 32) hq.1 (by decide) hq.2).1
        rw [show [p, q].getD 1 0 = q from rfl, show 32 * 1 = 32 from rfl, this, show (2 : Int) ^ 32 = 4294967296 by decide, bits_or_comm, or_join64 hq.1 hq.2 hp.1 hp.2]
        omega
      rw [e2, e]
      exact int_end _ _ [p, q] l b _ (by omega) (by omega) (by simp)
/-! the document's -/
theorem rint_j1 (k : Nat) (u : Int) (b : Bool) (m : List Int) (u0 : 0 ≤ u) (u1 : u < 18446744073709551616) :
    (if b = true then pelorusref02_Int.j1 (k + 1) u (decide (u ≤ 9223372036854775808)) b m else pelorusref02_Int.j1 (k + 1) u false b m) = some (intv (sg b u)) := by
  cases b
  · rw [if_neg (by decide)]
    simp only [pelorusref02_Int.j1, Bool.false_eq_true, if_false]
    unfold intv sg
    simp only [Bool.false_eq_true, if_false]
    by_cases h : u ≥ 9223372036854775808
    · rw [if_pos h, if_neg (by omega)]
    · rw [if_neg h, if_pos (by omega), w64 (by omega) (by omega)]
  · rw [if_pos rfl]
    simp only [pelorusref02_Int.j1]
    unfold intv sg
    simp only [if_true]
    by_cases h : u ≤ 9223372036854775808
    · rw [decide_eq_true h, if_pos rfl]
      by_cases z : u = 0
      · subst z; rfl
      · rw [if_neg z, if_pos (show -9223372036854775808 ≤ -u ∧ -u < 9223372036854775808 by omega), u64w (x := u - 1) (by omega) (by omega), w64 (x := u - 1) (by omega) (by omega), w64 (x := -(u - 1)) (by omega) (by omega), w64 (by omega) (by omega)]
        congr 2
        omega
    · rw [decide_eq_false h, if_neg (by decide), if_neg (by omega)]
theorem rint_end (k : Nat) (u : Int) (b : Bool) (m : List Int) (u0 : 0 ≤ u) (u1 : u < 18446744073709551616) : pelorusref02_Int.l0 (k + 2) u (-1) b m = some (intv (sg b u)) := by
  simp only [pelorusref02_Int.l0]
  rw [if_neg (by decide)]
  exact rint_j1 k u b m u0 u1
theorem rint_step (k : Nat) (x : Int) (l : List Int) (b : Bool) (i : Nat) (h : i < l.length) (hb : l.length ≤ 2) (x0 : 0 ≤ x) (x1 : x < 4294967296) (hu : U l) :
    pelorusref02_Int.l0 (k + 1) x (i : Int) b l = pelorusref02_Int.l0 k (x * 4294967296 + l.getD i 0) ((i : Int) - 1) b l := by
  have hg := U_getD hu i
  simp only [pelorusref02_Int.l0, rd_eq, Int.toNat_natCast]
  rw [if_pos (by omega), if_pos (by omega), if_pos (by omega), u64w (x := x * 4294967296) (by omega) (by omega), u64w (x := l.getD i 0) (by omega) (by omega), u64w (by omega) (by omega), w64 (by omega) (by omega)]
theorem rint_ev (b : Bool) (l : List Int) (h : U l) (hb : l.length ≤ 1073741824) : ∃ K, ∀ k, K ≤ k → pelorusref02_Int.f k b l = some (intv (sg b (val l))) := by
  obtain ⟨K, hK⟩ := rmake_ev b l h hb
  have nl := val_nonneg h
  refine ⟨K + 5, fun k hk => ?_⟩
  obtain ⟨k, rfl⟩ : ∃ m, k = m + 5 := ⟨k - 5, by omega⟩
  unfold pelorusref02_Int.f
  rw [hK _ (by omega), Option.bind_some, ← nw_of b nl]
  simp only
  by_cases hl : (lim (val l)).length > 2
  · rw [if_pos (by omega)]
    have hv : ¬ val l < 18446744073709551616 := fun hv => by
      have := lim_len nl 2 (by rw [show pw 2 = 18446744073709551616 by decide]; exact hv)
      omega
    have hs : ¬ (-9223372036854775808 ≤ sg b (val l) ∧ sg b (val l) < 9223372036854775808) := by unfold sg; split <;> omega
    unfold intv
    rw [if_neg hs]
  · rw [if_neg (by omega)]
    have es : sg (b && decide (val l ≠ 0)) (val l) = sg b (val l) := by
      by_cases z : val l = 0
      · rw [z]; cases b <;> rfl
      · rw [decide_eq_true z, Bool.and_true]
    rw [← es]
    generalize (b && decide (val l ≠ 0)) = c
    have u := U_lim nl
    have hv := val_lim nl
    rw [w64 (by omega) (by omega)]
    generalize lim (val l) = x at *
    have hl2 : x.length ≤ 2 := by omega
    match x, hl2, u, hv with
    | [], _, _, hv =>
      have : (0 : Int) = val l := hv
      rw [← this]
      exact rint_end _ 0 c [] (by decide) (by decide)
    | [p], hl, u, hv =>
      have hp := u p (by simp)
      have e : val l = p := by rw [← hv]; simp
      have s := rint_step (k + 4) 0 [p] c 0 (by simp) (by simp) (by decide) (by decide) u
      refine s.trans ?_
      rw [e]
      have e1 : (0 : Int) * 4294967296 + [p].getD 0 0 = p := by simp
      rw [e1]
      exact rint_end _ p c [p] (by omega) (by omega)
    | [p, q], hl, u, hv =>
      have hp := u p (by simp)
      have hq := u q (by simp)
      have e : val l = p + 4294967296 * q := by rw [← hv]; simp
      have s := rint_step (k + 4) 0 [p, q] c 1 (by simp) (by simp) (by decide) (by decide) u
      refine s.trans ?_
      have e1 : (0 : Int) * 4294967296 + [p, q].getD 1 0 = q := by simp
      rw [e1]
      have s2 := rint_step (k + 3) q [p, q] c 0 (by simp) (by simp) hq.1 hq.2 u
      refine s2.trans ?_
      have e2 : q * 4294967296 + [p, q].getD 0 0 = p + 4294967296 * q := by simp; omega
      rw [e2, e]
      exact rint_end _ _ c [p, q] (by omega) (by omega)
/-- May a number be? -/
def mayw (b : Bool) (l : List Int) : Bool := if l.length = 0 then !b else (l.getD (l.length - 1) 0 != 0)
theorem may_eq (b : Bool) (l : List Int) (hb : l.length ≤ 1073741824) : whole_May.f b l = some (mayw b l) := by
  unfold whole_May.f mayw
  by_cases h : l.length = 0
  · rw [if_pos (by omega), if_pos h]
  · have w : wrap64 ((l.length : Int) - 1) = ((l.length - 1 : Nat) : Int) := w64_pred (by omega) (by omega)
    rw [if_neg (by omega), if_neg h, w, if_pos (by omega), if_pos (by omega), rd_eq, Int.toNat_natCast]
theorem rmay_eq (b : Bool) (l : List Int) (hb : l.length ≤ 1073741824) : pelorusref02_May.f b l = some (mayw b l) := by
  unfold pelorusref02_May.f mayw
  by_cases h : l.length = 0
  · rw [if_pos (by omega), if_pos h, if_neg (by omega)]
  · have w : wrap64 ((l.length : Int) - 1) = ((l.length - 1 : Nat) : Int) := w64_pred (by omega) (by omega)
    rw [if_neg (by omega), if_neg h, w, if_pos (by omega), if_pos (by omega), rd_eq, Int.toNat_natCast]
    by_cases z : l.getD (l.length - 1) 0 = 0
    · rw [if_pos z, z]; rfl
    · rw [if_neg z, if_pos (by omega)]
      congr 1
      exact (bne_iff_ne.2 z).symm
theorem mayw_nw (s : Int) : mayw (nw s).1 (nw s).2 = true := by
  unfold mayw nw
  simp only
  by_cases h : s = 0
  · subst h; rw [show ((Int.natAbs 0 : Nat) : Int) = 0 from rfl, show lim 0 = [] from limN_zero]; rfl
  · have hp : 0 < (s.natAbs : Int) := by omega
    have := lim_nil_iff (n := (s.natAbs : Int)) (by omega)
    rw [if_neg (by omega)]
    exact bne_iff_ne.2 (lim_last hp)
/-! what wakes the statements -/
theorem nw_small {s : Int} (h : s.natAbs < 4294967296) : (nw s).2.length ≤ 1 := B_len (B_small h)
theorem awake_ev : ∃ K, ∀ k, K ≤ k → peloruslaw02_awake.f k = some true := by
  obtain ⟨K1, h1⟩ := from_ev (-7) (by decide) (by decide)
  obtain ⟨K2, h2⟩ := from_ev 2 (by decide) (by decide)
  obtain ⟨K3, h3⟩ := from_ev (-3) (by decide) (by decide)
  obtain ⟨K4, h4⟩ := from_ev 4 (by decide) (by decide)
  have l7 := nw_small (s := -7) (by decide)
  have l2 := nw_small (s := 2) (by decide)
  have l3 := nw_small (s := -3) (by decide)
  have l4 := nw_small (s := 4) (by decide)
  obtain ⟨K5, h5⟩ := divw_ev (nw (-7)).1 (nw 2).1 (nw (-7)).2 (nw 2).2 (nw_U _) (nw_U _) (by omega) (by omega)
  have v7 : val (nw (-7)).2 = 7 := val_lim (n := 7) (by decide)
  have v2 : val (nw 2).2 = 2 := val_lim (n := 2) (by decide)
  have d : divw (nw (-7)).1 (nw 2).1 7 2 = (-4, 1) := by decide
  rw [v7, v2, if_neg (by decide), d] at h5
  simp only at h5
  have la := nw_small (s := -4) (by decide)
  have lb := nw_small (s := 1) (by decide)
  have lc := nw_small (s := -24) (by decide)
  obtain ⟨K6, h6⟩ := int_ev (nw (-4)).1 (nw (-4)).2 (nw_U _) (by omega)
  obtain ⟨K7, h7⟩ := int_ev (nw 1).1 (nw 1).2 (nw_U _) (by omega)
  obtain ⟨K8, h8⟩ := int_ev (nw (-24)).1 (nw (-24)).2 (nw_U _) (by omega)
  rw [nw_sg] at h6 h7 h8
  obtain ⟨K9, h9⟩ := mulw_ev [⟨(nw 2).1, (nw 2).2⟩, ⟨(nw (-3)).1, (nw (-3)).2⟩, ⟨(nw 4).1, (nw 4).2⟩] (by simp [nw_U]) (by simp; omega) (by simp)
  have p : prodS [⟨(nw 2).1, (nw 2).2⟩, ⟨(nw (-3)).1, (nw (-3)).2⟩, ⟨(nw 4).1, (nw 4).2⟩] = -24 := by
    rw [prodS_cons, prodS_cons, prodS_cons]
    simp only [nw_sg]
    rfl
  rw [p] at h9
  refine ⟨K1 + K2 + K3 + K4 + K5 + K6 + K7 + K8 + K9, fun k hk => ?_⟩
  unfold peloruslaw02_awake.f
  rw [h1 k (by omega), Option.bind_some, h2 k (by omega), Option.bind_some, h5 k (by omega), Option.bind_some]
  simp only
  rw [h6 k (by omega), Option.bind_some, h7 k (by omega), Option.bind_some, h3 k (by omega), Option.bind_some, h4 k (by omega), Option.bind_some, Option.bind_some, h9 k (by omega), Option.bind_some, h8 k (by omega), Option.bind_some]
  rfl
end Go.Proofs.Ytbejmpocgnldnaa.T
