/- What the functions of package nat answer (last part: the root). -/
import Derived.Test.YtdaoijgnolhnoaaT6
namespace Go.Proofs.Ytdaoijgnolhnoaa.T
set_option linter.unusedVariables false
set_option linter.unusedSimpArgs false
open Go.RowKit Go.Proofs.YtdaoijgnolhnoaaW.PrintWords Go.Proofs.YtdaoijgnolhnoaaW.PrintMore Go.Proofs.Ytdaoijgnolhnoaa.PN

def isq : Nat → Nat
  | 0 => 0
  | n + 1 => if (isq n + 1) * (isq n + 1) ≤ n + 1 then isq n + 1 else isq n
/-- The greatest number whose square is not greater. -/
def sqv (n : Int) : Int := (isq n.toNat : Int)
theorem isq_le (n : Nat) : isq n * isq n ≤ n ∧ n < (isq n + 1) * (isq n + 1) := by
  induction n with
  | zero => decide
  | succ n ih =>
    unfold isq
    split
    · rename_i h
      refine ⟨h, ?_⟩
      have e : (isq n + 1 + 1) * (isq n + 1 + 1) = (isq n + 1) * (isq n + 1) + 2 * (isq n + 1) + 1 := by grind
      omega
    · rename_i h
      omega
theorem sqv_nonneg (n : Int) : 0 ≤ sqv n := by unfold sqv; omega
theorem sqv_le {n : Int} (h : 0 ≤ n) : sqv n * sqv n ≤ n ∧ n < (sqv n + 1) * (sqv n + 1) := by
  obtain ⟨m, rfl⟩ : ∃ m : Nat, n = m := ⟨n.toNat, by omega⟩
  unfold sqv
  rw [Int.toNat_natCast]
  have := isq_le m
  exact ⟨by exact_mod_cast this.1, by exact_mod_cast this.2⟩
theorem sq_lt {a b : Int} (ha : 0 ≤ a) (hb : 0 ≤ b) (h : a * a < b * b) : a < b := by
  by_cases hq : a < b
  · exact hq
  · have := Int.mul_le_mul (show b ≤ a by omega) (show b ≤ a by omega) hb ha
    omega
theorem sqv_eq {n r : Int} (h0 : 0 ≤ r) (h1 : r * r ≤ n) (h2 : n < (r + 1) * (r + 1)) : sqv n = r := by
  have hn : 0 ≤ n := by have := Int.mul_nonneg h0 h0; omega
  obtain ⟨a, b⟩ := sqv_le hn
  have s0 := sqv_nonneg n
  have c1 := sq_lt h0 (show 0 ≤ sqv n + 1 by omega) (by omega)
  have c2 := sq_lt s0 (show 0 ≤ r + 1 by omega) (by omega)
  omega
theorem sgn_beq (x y : Int) : (sgn (x - y) == 0) = (x == y) := by
  rcases Int.lt_trichotomy x y with h | h | h
  · rw [sgn_neg (by omega), (beq_eq_false_iff_ne (a := x) (b := y)).2 (by omega)]; rfl
  · subst h; rw [Int.sub_self, sgn_zero]; simp
  · rw [sgn_pos (by omega), (beq_eq_false_iff_ne (a := x) (b := y)).2 (by omega)]; rfl
theorem amgm (x y : Int) : 4 * (x * y) ≤ (x + y) * (x + y) := by
  have h : 0 ≤ (x - y) * (x - y) := by
    rcases Int.le_total 0 (x - y) with h | h
    · exact Int.mul_nonneg h h
    · have := Int.mul_nonneg (show 0 ≤ -(x - y) by omega) (show 0 ≤ -(x - y) by omega)
      rw [Int.neg_mul_neg] at this
      exact this
  have e1 : (x - y) * (x - y) = x * x - 2 * (x * y) + y * y := by grind
  have e2 : (x + y) * (x + y) = x * x + 2 * (x * y) + y * y := by grind
  omega
/-- One step of the way to the root. -/
theorem newton {n s : Int} (hn : 0 < n) (hs : 0 < s) (h : n < (s + 1) * (s + 1)) : (¬ (s + n / s) / 2 < s → s * s ≤ n) ∧ ((s + n / s) / 2 < s → 0 < (s + n / s) / 2 ∧ n < ((s + n / s) / 2 + 1) * ((s + n / s) / 2 + 1)) := by
  have e := Int.mul_ediv_add_emod n s
  have m0 := Int.emod_nonneg n (show s ≠ 0 by omega)
  have m1 := Int.emod_lt_of_pos n hs
  have q0 := Int.ediv_nonneg (show 0 ≤ n by omega) (show 0 ≤ s by omega)
  obtain ⟨q, hq⟩ : ∃ q, q = n / s := ⟨_, rfl⟩
  rw [← hq] at e q0 ⊢
  constructor
  · intro hc
    have h1 := Int.mul_le_mul_of_nonneg_left (show s ≤ q by omega) (show 0 ≤ s by omega)
    omega
  · intro hc
    obtain ⟨t, ht⟩ : ∃ t, t = (s + q) / 2 := ⟨_, rfl⟩
    rw [← ht] at hc ⊢
    have h1 := amgm s (q + 1)
    have h2 := Int.mul_le_mul (show s + (q + 1) ≤ 2 * (t + 1) by omega) (show s + (q + 1) ≤ 2 * (t + 1) by omega) (by omega) (by omega)
    have e2 : 2 * (t + 1) * (2 * (t + 1)) = 4 * ((t + 1) * (t + 1)) := by grind
    have e3 : s * (q + 1) = s * q + s := by grind
    have h3 : n < (t + 1) * (t + 1) := by omega
    refine ⟨?_, h3⟩
    by_cases hz : 0 < t
    · exact hz
    · have : t = 0 := by omega
      subst this
      omega
theorem root_l0 (n : Int) (hn : 0 < n) (L : Nat) (hL : L ≤ 268435456) (hln : (lim n).length ≤ L) (m : Nat) :
    ∀ (s : Int), s = (m : Int) → 0 < s → (lim s).length ≤ L → n < (s + 1) * (s + 1) → ∃ K, ∀ k, K ≤ k → nat_Root.l0 k (lim n) (lim s) = some (lim (sqv n), sqv n * sqv n == n) := by
  induction m using Nat.strongRecOn with
  | _ m ih =>
    intro s hm hs hls hlt
    have hn0 : 0 ≤ n := by omega
    have hs0 : 0 ≤ s := by omega
    have hq0 := Int.ediv_nonneg hn0 hs0
    have hql : (lim (n / s)).length ≤ L := Nat.le_trans (lim_len_mono hq0 (Int.ediv_le_self s hn0)) hln
    obtain ⟨K1, h1⟩ := div_ev (lim n) (lim s) (U_lim hn0) (U_lim hs0) (by omega) (by omega)
    rw [val_lim hn0, val_lim hs0, if_neg (by omega)] at h1
    obtain ⟨K2, h2⟩ := add_ev (lim s) (lim (n / s)) (U_lim hs0) (U_lim hq0) (by omega) (by omega)
    rw [val_lim hs0, val_lim hq0] at h2
    have hsl : (lim (s + n / s)).length ≤ L + 1 := by
      have a1 := val_lt (U_lim hs0)
      have a2 := val_lt (U_lim hq0)
      rw [val_lim hs0] at a1
      rw [val_lim hq0] at a2
      have a3 := pw_mono hls
      have a4 := pw_mono hql
      exact lim_len (by omega) _ (by rw [pw_succ]; omega)
    obtain ⟨K3, h3⟩ := shr_ev (lim (s + n / s)) 1 (U_lim (by omega)) (by omega)
    have hsh : shrv (s + n / s) 1 = (s + n / s) / 2 := by unfold shrv; rw [if_neg (by omega)]; rfl
    rw [val_lim (by omega), hsh] at h3
    have ht0 : 0 ≤ (s + n / s) / 2 := by omega
    have htl := lim_len_mono ht0 (show (s + n / s) / 2 ≤ s + n / s by omega)
    obtain ⟨K4, h4⟩ := cmp_ev (lim ((s + n / s) / 2)) (lim s) (U_lim ht0) (U_lim hs0) (by omega) (by omega)
    rw [val_lim ht0, val_lim hs0] at h4
    obtain ⟨c1, c2⟩ := newton hn hs hlt
    by_cases hc : (s + n / s) / 2 < s
    · obtain ⟨d1, d2⟩ := c2 hc
      obtain ⟨K5, h5⟩ := ih ((s + n / s) / 2).toNat (by omega) ((s + n / s) / 2) (by omega) d1 (Nat.le_trans (lim_len_mono ht0 (by omega)) hls) d2
      refine ⟨K1 + K2 + K3 + K4 + K5 + 1, fun k hk => ?_⟩
      obtain ⟨k, rfl⟩ : ∃ m, k = m + 1 := ⟨k - 1, by omega⟩
      simp only [nat_Root.l0]
      rw [h1 k (by omega), Option.bind_some]
      simp only
      rw [h2 k (by omega), Option.bind_some, h3 k (by omega), Option.bind_some, h4 k (by omega), Option.bind_some, sgn_neg (by omega), if_pos (by omega)]
      exact h5 k (by omega)
    · have hr := sqv_eq hs0 (c1 hc) hlt
      obtain ⟨K5, h5⟩ := mul_ev (lim s) (lim s) (U_lim hs0) (U_lim hs0) (by omega)
      have hss := Int.mul_nonneg hs0 hs0
      have hssl := Nat.le_trans (lim_len_mono hss (c1 hc)) hln
      obtain ⟨K6, h6⟩ := cmp_ev (lim (s * s)) (lim n) (U_lim hss) (U_lim hn0) (by omega) (by omega)
      rw [val_lim hs0] at h5
      rw [val_lim hss, val_lim hn0] at h6
      have hsg : ¬ sgn ((s + n / s) / 2 - s) < 0 := by unfold sgn; split <;> (try split) <;> omega
      refine ⟨K1 + K2 + K3 + K4 + K5 + K6 + 1, fun k hk => ?_⟩
      obtain ⟨k, rfl⟩ : ∃ m, k = m + 1 := ⟨k - 1, by omega⟩
      simp only [nat_Root.l0]
      rw [h1 k (by omega), Option.bind_some]
      simp only
      rw [h2 k (by omega), Option.bind_some, h3 k (by omega), Option.bind_some, h4 k (by omega), Option.bind_some, if_neg hsg, h5 k (by omega), Option.bind_some, h6 k (by omega), Option.bind_some, sgn_beq, hr]
theorem root_ev (a : List Int) (ha : U a) (hla : a.length ≤ 1048000) : ∃ K, ∀ k, K ≤ k → nat_Root.f k a = some (lim (sqv (val a)), sqv (val a) * sqv (val a) == val a) := by
  have na := val_nonneg ha
  have la := lim_len na a.length (val_lt ha)
  obtain ⟨K1, h1⟩ := cut_ev a ha (by omega)
  by_cases c0 : val a = 0
  · refine ⟨K1, fun k hk => ?_⟩
    unfold nat_Root.f
    rw [h1 k hk, Option.bind_some, c0, lim_zero, if_pos (by simp), show sqv 0 = 0 from rfl, lim_zero]
    rfl
  · have hpos : 0 < val a := by omega
    have hne : ((lim (val a)).length : Int) ≠ 0 := fun h => c0 ((lim_nil_iff na).1 (by omega))
    obtain ⟨K2, h2⟩ := len_ev (lim (val a)) (U_lim na) (by omega)
    rw [val_lim na] at h2
    have b1 := bl_ge hpos
    have b2 := bl_lt na
    have b3 := bl_pos hpos
    have b4 := bl_le (n := val a) (m := 32 * a.length) (by rw [← p2_limb]; exact val_lt ha)
    obtain ⟨e, he⟩ : ∃ e : Nat, (bl (val a) + 1) / 2 = (e : Int) := ⟨((bl (val a) + 1) / 2).toNat, by omega⟩
    obtain ⟨K3, h3⟩ := shl_ev [1] ((bl (val a) + 1) / 2) (by simp [U]) (by simp)
    have hv1 : val [1] = 1 := by simp
    have hsv : shlv 1 ((bl (val a) + 1) / 2) = 2 ^ e := by
      unfold shlv
      rw [if_neg (by omega)]
      by_cases hbig : (bl (val a) + 1) / 2 > 16777216
      · omega
      · rw [if_neg hbig, he, Int.toNat_natCast, Int.one_mul]
    rw [hv1, hsv] at h3
    have hp := p2_pos e
    have hlt : val a < 2 ^ e * 2 ^ e := by
      rw [← p2_add]
      have := p2_mono (show (bl (val a)).toNat ≤ e + e by omega)
      omega
    have hsl : (lim (2 ^ e)).length ≤ a.length + 1 := by
      refine lim_len (by omega) _ ?_
      have := p2_mono (show e ≤ (bl (val a)).toNat by omega)
      have h5 := val_lt ha
      have h6 : (2 : Int) ^ (bl (val a)).toNat ≤ 2 * val a := by
        rw [show (bl (val a)).toNat = (bl (val a) - 1).toNat + 1 by omega, p2_succ]
        omega
      rw [pw_succ]
      omega
    obtain ⟨K4, h4⟩ := root_l0 (val a) hpos (a.length + 1) (by omega) (by omega) (2 ^ e : Int).toNat (2 ^ e) (by omega) hp hsl (by
      have e3 : ((2 : Int) ^ e + 1) * (2 ^ e + 1) = 2 ^ e * 2 ^ e + 2 * 2 ^ e + 1 := by grind
      omega)
    refine ⟨K1 + K2 + K3 + K4, fun k hk => ?_⟩
    unfold nat_Root.f
    rw [h1 k (by omega), Option.bind_some, if_neg hne, h2 k (by omega), Option.bind_some, w64 (x := bl (val a) + 1) (by omega) (by omega), Int.tdiv_eq_ediv_of_nonneg (by omega), w64 (by omega) (by omega), h3 k (by omega), Option.bind_some]
    exact h4 k (by omega)
end Go.Proofs.Ytdaoijgnolhnoaa.T
