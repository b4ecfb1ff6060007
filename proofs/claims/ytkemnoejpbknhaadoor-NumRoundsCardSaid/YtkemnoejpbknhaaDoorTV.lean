/- The document's numbers of layer 3, and what it rounds them to. -/
import Derived.Test.YtkemnoejpbknhaaDoorPAx2
import Derived.Test.YtkemnoejpbknhaaDoorTW
namespace Go.Proofs.YtkemnoejpbknhaaDoor.T
set_option linter.unusedVariables false
set_option linter.unusedSimpArgs false
open Go.RowKit Go.Proofs.YtkemnoejpbknhaaDoorW.PrintWords Go.Proofs.YtkemnoejpbknhaaDoorW.PrintMore Go.Proofs.YtkemnoejpbknhaaDoor.PA

/-- Halved as often as that goes; an exponent that is too far is none. -/
theorem m3_gen (neg : Bool) (n : Nat) : ∀ (v e i : Int), 0 < v → bl v = n → 0 ≤ i → i + n ≤ 4000000 → n ≤ 100000 → -4194304 ≤ e → e + n ≤ 8388608 →
    ∃ (o : Int) (t : Nat), 0 < o ∧ o % 2 = 1 ∧ v = o * 2 ^ t ∧ ∃ K, ∀ k, K ≤ k → pelorusref03_Make.l0 k e i neg (lim v) = some (if e + t ≤ 4194304 then (neg, lim o, e + t) else (false, [], 0)) := by
  induction n with
  | zero => intro v e i hv hb; have := bl_pos hv; omega
  | succ n ih =>
    intro v e i hv hb i0 i1 hn e0 e1
    have ev := even_eq (v := v) (by omega)
    by_cases h2 : v % 2 = 0
    · have hb2 := bl_half hv h2
      obtain ⟨o, t, o0, o1, ho, hE⟩ := ih (v / 2) (e + 1) (i + 1) (by omega) (by omega) (by omega) (by omega) (by omega) (by omega) (by omega)
      refine ⟨o, t + 1, o0, o1, ?_, ?_⟩
      · rw [p2_succ, ← Int.mul_assoc, Int.mul_comm o 2, Int.mul_assoc, ← ho]; omega
      · have hl := len_lim (v := v) (by omega) (bl v).toNat (bl_lt (by omega))
        have s := rshr_ev (lim v) 1 (U_lim (by omega)) (by omega)
        rw [val_lim (by omega)] at s
        have sv : shrv v 1 = v / 2 := by unfold shrv; rw [if_neg (by decide)]; rfl
        rw [sv] at s
        obtain ⟨K1, s⟩ := s
        obtain ⟨K2, hE⟩ := hE
        refine ⟨K1 + K2 + 1, fun k hk => ?_⟩
        obtain ⟨k, rfl⟩ : ∃ m, k = m + 1 := ⟨k - 1, by omega⟩
        simp only [pelorusref03_Make.l0]
        rw [if_pos (by omega), ev, Option.bind_some, decide_eq_true ⟨by omega, h2⟩, if_pos rfl, s k (by omega), Option.bind_some, w64 (by omega) (by omega), w64 (by omega) (by omega), hE k (by omega), show e + 1 + (t : Int) = e + ((t + 1 : Nat) : Int) by omega]
    · refine ⟨v, 0, hv, by omega, by simp, 1, fun k hk => ?_⟩
      obtain ⟨k, rfl⟩ : ∃ m, k = m + 1 := ⟨k - 1, by omega⟩
      simp only [pelorusref03_Make.l0]
      rw [if_pos (by omega), ev, Option.bind_some, decide_eq_false (fun h => h2 h.2), if_neg (by decide)]
      by_cases h3 : e > 4194304
      · rw [if_pos h3, if_neg (by omega)]
      · rw [if_neg h3, if_pos (by omega), show e + ((0 : Nat) : Int) = e by omega]
theorem rmk_ev (neg : Bool) (l : List Int) (e : Int) (h : U l) (hb : l.length ≤ 100000000) (hl : bl (val l) ≤ 100000) {d : Dd} (hd : Dv d (sg neg (val l)) e) : ∃ K, ∀ k, K ≤ k → pelorusref03_Make.f k neg l e = some d := by
  have hn := val_nonneg h
  obtain ⟨K, hK⟩ := make2_ev neg l h (by omega)
  have nl := lim_nil_iff hn
  rcases hd with ⟨hs, rfl⟩ | ⟨o, t, o0, o1, s0, hs, rfl⟩
  · have hz : val l = 0 := by have := sg_abs neg hn; rw [hs] at this; simpa using this.symm
    refine ⟨K + 1, fun k hk => ?_⟩
    obtain ⟨k, rfl⟩ : ∃ m, k = m + 1 := ⟨k - 1, by omega⟩
    unfold pelorusref03_Make.f
    rw [hK (k + 1) (by omega), Option.bind_some, hz, show lim 0 = [] from limN_zero]
    rfl
  · rw [sg_abs neg hn] at hs
    have v0 : 0 < val l := by rw [hs]; exact Int.mul_pos o0 (p2_pos t)
    have bp := bl_pos v0
    rw [sg_lt neg v0]
    by_cases he : -4194304 ≤ e ∧ e ≤ 4194304
    · obtain ⟨o', t', o0', o1', ho', K2, hE⟩ := m3_gen neg (bl (val l)).toNat (val l) e 0 v0 (by omega) (by decide) (by omega) (by omega) he.1 (by omega)
      obtain ⟨rfl, rfl⟩ := odd_un o1 o1' (hs.symm.trans ho')
      refine ⟨K + K2 + 1, fun k hk => ?_⟩
      obtain ⟨k, rfl⟩ : ∃ m, k = m + 1 := ⟨k - 1, by omega⟩
      unfold pelorusref03_Make.f
      rw [hK (k + 1) (by omega), Option.bind_some]
      simp only
      rw [if_neg (by omega), if_neg (by omega), decide_eq_false (show ¬ e > 4194304 by omega), decide_eq_true (show val l ≠ 0 by omega), Bool.and_true]
      simp only [pelorusref03_Make.j0, Bool.false_eq_true, if_false]
      rw [hE k (by omega)]
      by_cases h3 : e + (t : Int) ≤ 4194304
      · rw [if_pos h3, if_pos ⟨he.1, he.2, h3⟩]
      · rw [if_neg h3, if_neg (fun x => h3 x.2.2)]
    · refine ⟨K + 1, fun k hk => ?_⟩
      obtain ⟨k, rfl⟩ : ∃ m, k = m + 1 := ⟨k - 1, by omega⟩
      unfold pelorusref03_Make.f
      rw [hK (k + 1) (by omega), Option.bind_some, if_neg (show ¬ (-4194304 ≤ e ∧ e ≤ 4194304 ∧ e + (t : Int) ≤ 4194304) from fun x => he ⟨x.1, x.2.1⟩)]
      simp only
      rw [if_neg (show ¬ ((lim (val l)).length : Int) = 0 by omega)]
      by_cases h1 : e < -4194304
      · rw [if_pos h1]; simp [pelorusref03_Make.j0]
      · rw [if_neg h1, decide_eq_true (show e > 4194304 by omega)]; simp [pelorusref03_Make.j0]
theorem round5_of {l : List Int} {n neg : Bool} {e E o : Int} (o0 : 0 < o) (o1 : o % 2 = 1) (bo9 : bl o ≤ 90000) (E0 : -5000000 ≤ E) (E1 : E ≤ 5000000) (up : Bool) (hm : ∃ K, ∀ k, K ≤ k → pelorusref03_Make.f k n l e = some (neg, lim o, E)) :
    ∃ K, ∀ k, K ≤ k → pelorusref05_Round.f k n l e up = some (rnd neg o E (up != neg)) := by
  obtain ⟨K1, h1⟩ := hm
  have po := bl_pos o0
  have lo := len_lim (v := o) (by omega) (bl o).toNat (bl_lt (by omega))
  have nl := lim_nil_iff (n := o) (by omega)
  obtain ⟨K2, h2⟩ := rlen_ev (lim o) (U_lim (by omega)) (by omega)
  rw [val_lim (by omega)] at h2
  by_cases hb : bl o ≤ 64
  · obtain ⟨j, hj⟩ : ∃ j : Nat, 64 - bl o = j := ⟨(64 - bl o).toNat, by omega⟩
    have w : wrap64 (64 - bl o) = (j : Int) := by rw [w64 (by omega) (by omega)]; omega
    obtain ⟨K3, h3⟩ := rshl_ev (lim o) j (U_lim (by omega)) (by omega)
    rw [val_lim (by omega), shlv_eq (by omega) (by omega), Int.toNat_natCast] at h3
    have pj := p2_pos j
    have v0 := Int.mul_pos o0 pj
    have v1 := mul_lt_p j (bl_lt (n := o) (by omega))
    rw [← p2_add, show (bl o).toNat + j = 64 by omega, p64] at v1
    obtain ⟨K4, h4⟩ := word_ev (v := o * 2 ^ j) (by omega) v1
    refine ⟨K1 + K2 + K3 + K4, fun k hk => ?_⟩
    unfold pelorusref05_Round.f
    rw [h1 k (by omega), Option.bind_some]
    simp only
    rw [if_neg (by omega), h2 k (by omega), Option.bind_some, if_pos hb, w, h3 k (by omega), Option.bind_some, h4 k (by omega), Option.bind_some, fin5_eq, Option.bind_some, w64 (x := E + bl o) (by omega) (by omega), w64 (by omega) (by omega)]
    unfold rnd
    rw [if_pos hb, hj, Int.toNat_natCast]
  · obtain ⟨j, hj⟩ : ∃ j : Nat, bl o - 64 = (j + 1 : Nat) := ⟨(bl o - 65).toNat, by omega⟩
    have w : wrap64 (bl o - 64) = ((j + 1 : Nat) : Int) := by rw [w64 (by omega) (by omega)]; omega
    obtain ⟨K3, h3⟩ := rshr_ev (lim o) ((j + 1 : Nat) : Int) (U_lim (by omega)) (by omega)
    rw [val_lim (by omega), shrv_eq (by omega), Int.toNat_natCast] at h3
    have pj := p2_pos (j + 1)
    have q0 := Int.le_ediv_of_mul_le (a := 9223372036854775808) (b := o) pj (by
      have := bl_ge o0
      rw [show (bl o - 1).toNat = 63 + (j + 1) by omega, p2_add, p63] at this
      exact this)
    have q1 := Int.ediv_lt_of_lt_mul (a := o) (b := 18446744073709551616) pj (by
      have := bl_lt (n := o) (by omega)
      rw [show (bl o).toNat = 64 + (j + 1) by omega, p2_add, p64] at this
      exact this)
    have cut : decide (o % 2 ^ (j + 1) ≠ 0) = true := by
      refine decide_eq_true fun h => ?_
      have := Int.mul_ediv_add_emod o (2 ^ (j + 1))
      rw [h, p2_succ, Int.mul_assoc] at this
      omega
    have er2 : rnd neg o E (up != neg) = grw neg (o / 2 ^ (j + 1)) (E + bl o - 64) true (up != neg) := by
      unfold rnd
      rw [if_neg hb, hj, Int.toNat_natCast, cut]
    rw [er2]
    have w1 : wrap64 (wrap64 (E + bl o) - 64) = E + bl o - 64 := by rw [w64 (x := E + bl o) (by omega) (by omega), w64 (by omega) (by omega)]
    generalize hq : o / 2 ^ (j + 1) = q at *
    have lq := len_lim (v := q) (by omega) 64 (by rw [p64]; exact q1)
    cases haw : (up != neg)
    · obtain ⟨K4, h4⟩ := word_ev (v := q) (by omega) q1
      refine ⟨K1 + K2 + K3 + K4, fun k hk => ?_⟩
      unfold pelorusref05_Round.f
      rw [h1 k (by omega), Option.bind_some]
      simp only
      rw [if_neg (by omega), h2 k (by omega), Option.bind_some, if_neg hb, w, h3 k (by omega), Option.bind_some, haw, if_neg (by decide), h4 k (by omega), Option.bind_some, fin5_eq, Option.bind_some, w1]
      unfold grw
      rw [if_neg (by simp)]
    · obtain ⟨K4, h4⟩ := radd_ev (lim q) [1] (U_lim (by omega)) (U_single (by decide) (by decide)) (by omega) (by simp)
      rw [val_lim (by omega), show val [1] = 1 by simp] at h4
      have lq1 := len_lim (v := q + 1) (by omega) 65 (by rw [show (2 : Int) ^ 65 = 36893488147419103232 by decide]; omega)
      obtain ⟨K5, h5⟩ := rlen_ev (lim (q + 1)) (U_lim (by omega)) (by omega)
      rw [val_lim (by omega)] at h5
      by_cases hc : q + 1 = 18446744073709551616
      · have b65 : bl (q + 1) = 65 := by rw [hc]; decide +kernel
        obtain ⟨K6, h6⟩ := rshr_ev (lim (q + 1)) 1 (U_lim (by omega)) (by omega)
        rw [val_lim (by omega), show shrv (q + 1) 1 = 9223372036854775808 by rw [hc]; decide +kernel] at h6
        obtain ⟨K7, h7⟩ := word_ev (v := 9223372036854775808) (by decide) (by decide)
        refine ⟨K1 + K2 + K3 + K4 + K5 + K6 + K7, fun k hk => ?_⟩
        unfold pelorusref05_Round.f
        rw [h1 k (by omega), Option.bind_some]
        simp only
        rw [if_neg (by omega), h2 k (by omega), Option.bind_some, if_neg hb, w, h3 k (by omega), Option.bind_some, haw, if_pos rfl, h4 k (by omega), Option.bind_some, h5 k (by omega), Option.bind_some, if_pos (by omega), h6 k (by omega), Option.bind_some, h7 k (by omega), Option.bind_some, fin5_eq, Option.bind_some, w1, w64 (by omega) (by omega)]
        unfold grw
        rw [if_pos ⟨rfl, rfl⟩, if_pos hc]
      · have b64 := bl_le (n := q + 1) (m := 64) (by rw [p64]; omega)
        obtain ⟨K7, h7⟩ := word_ev (v := q + 1) (by omega) (by omega)
        refine ⟨K1 + K2 + K3 + K4 + K5 + K7, fun k hk => ?_⟩
        unfold pelorusref05_Round.f
        rw [h1 k (by omega), Option.bind_some]
        simp only
        rw [if_neg (by omega), h2 k (by omega), Option.bind_some, if_neg hb, w, h3 k (by omega), Option.bind_some, haw, if_pos rfl, h4 k (by omega), Option.bind_some, h5 k (by omega), Option.bind_some, if_neg (by omega), h7 k (by omega), Option.bind_some, fin5_eq, Option.bind_some, w1]
        unfold grw
        rw [if_pos ⟨rfl, rfl⟩, if_neg hc]

theorem bl_dv {d : Dd} {s e : Int} (h : Dv d s e) {o : Int} (o0 : 0 < o) (ho : d.2.1 = lim o) : bl o ≤ bl s.natAbs := by
  have := h.le
  rw [ho, val_lim (by omega)] at this
  have h2 := bl_le (Int.lt_of_le_of_lt this (bl_lt (n := (s.natAbs : Int)) (by omega)))
  have h3 := bl_nonneg (s.natAbs : Int)
  omega
theorem rround_ev (neg : Bool) (l : List Int) (e : Int) (h : U l) (hb : l.length ≤ 100000000) (hl : bl (val l) ≤ 90000) {d : Dd} (hd : Dv d (sg neg (val l)) e) (up : Bool) : ∃ K, ∀ k, K ≤ k → pelorusref05_Round.f k neg l e up = some (rdv d up) := by
  have hm := rmk_ev neg l e h hb (by omega) hd
  have hE := hd.E
  have hle := hd.le
  rcases hd.odd with h0 | ⟨o, o0, o1, ho⟩
  · subst h0
    obtain ⟨K1, h1⟩ := hm
    refine ⟨K1, fun k hk => ?_⟩
    unfold pelorusref05_Round.f
    rw [h1 k (by omega), Option.bind_some]
    rfl
  · have hbo := bl_dv hd o0 ho
    rw [sg_abs neg (val_nonneg h)] at hbo
    obtain ⟨n, m, E⟩ := d
    simp only at ho hE hm
    subst ho
    have er : rdv (n, lim o, E) up = rnd n o E (up != n) := by
      unfold rdv
      simp only
      rw [val_lim (by omega), rnz_sg o0]
    rw [er]
    exact round5_of o0 o1 (by omega) (by omega) (by omega) up hm
/-- A number that layer 3 can hold is rounded as it is. -/
theorem rdv_eq {d : Dd} {s e : Int} (h : Dv d s e) (up : Bool) (hs : s ≠ 0) (e0 : -4194304 ≤ e) (e1 : e + bl s.natAbs ≤ 4194304) : rdv d up = rnz s e up := by
  have bn := bl_nonneg (s.natAbs : Int)
  rcases h with ⟨h0, rfl⟩ | ⟨o, t, o0, o1, s0, ho, rfl⟩
  · exact absurd h0 hs
  · have bo := blp o0 t
    have po := bl_pos o0
    rw [← ho] at bo
    rw [if_pos ⟨e0, by omega, by omega⟩]
    unfold rdv
    simp only
    rw [val_lim (by omega), rnz_sg o0]
    unfold rnz
    rw [if_neg hs, ho, rnd_scale o0]
theorem rdv_zero {d : Dd} {e : Int} (h : Dv d 0 e) (up : Bool) : rdv d up = (0, false, 0, 0) := by
  rcases h with ⟨h0, rfl⟩ | ⟨o, t, o0, o1, s0, ho, rfl⟩
  · rfl
  · exact absurd rfl s0
theorem rdv_may (d : Dd) (up : Bool) : mayP (rdv d up) := rnz_may _ _ _
theorem of_rnz (a : Int) (h0 : -9223372036854775808 ≤ a) (h1 : a ≤ 9223372036854775807) (up : Bool) : rnz a 0 up = ofv a := by
  unfold rnz ofv
  by_cases hz : a = 0
  · rw [if_pos hz, if_pos hz]
  · rw [if_neg hz, if_neg hz]
    have b0 := bl_pos (n := (a.natAbs : Int)) (by omega)
    have b1 := bl_le (n := (a.natAbs : Int)) (m := 64) (by rw [p64]; omega)
    have b2 := bl_lt (n := (a.natAbs : Int)) (by omega)
    have b3 := bl_ge (n := (a.natAbs : Int)) (by omega)
    unfold rnd
    rw [if_pos (by omega), bnd_in (by omega) (by omega)]
    congr 3
    omega
theorem rof_ev (a : Int) (h0 : -9223372036854775808 ≤ a) (h1 : a ≤ 9223372036854775807) : ∃ K, ∀ k, K ≤ k → pelorusref05_Of.f k a = some (ofv a) := by
  obtain ⟨d, hd⟩ := Dv.ex a 0
  have ha : (a.natAbs : Int) < 18446744073709551616 := by omega
  have hb : bl (a.natAbs : Int) ≤ 64 := bl_le (by rw [p64]; omega)
  have hU := nw_U a
  have hsg := nw_sg a
  have hlen : (nw a).2.length ≤ 2 := lim_len (by omega) 2 (by rw [show pw 2 = 18446744073709551616 by decide]; exact ha)
  have hval : val (nw a).2 = a.natAbs := val_lim (by omega)
  obtain ⟨K1, h1'⟩ := rfrom_ev a h0 h1
  obtain ⟨K2, h2⟩ := rmk_ev (nw a).1 (nw a).2 0 hU (by omega) (by rw [hval]; omega) (d := d) (by rw [hsg]; exact hd)
  have hd2 := hd.again
  have hdl := hd.len (L := 2) (by unfold B; rw [show pw 2 = 18446744073709551616 by decide]; exact ha)
  have hdv := hd.le
  have hdn := val_nonneg hd.U
  obtain ⟨K3, h3⟩ := rround_ev d.1 d.2.1 d.2.2 hd.U (by omega) (by
    have : bl (val d.2.1) ≤ 64 := bl_le (by rw [p64]; omega)
    omega) hd2 true
  have e : rdv d true = ofv a := by
    rw [← of_rnz a h0 h1 true]
    by_cases hz : a = 0
    · subst hz; rw [rdv_zero hd]; rfl
    · exact rdv_eq hd true hz (by decide) (by omega)
  refine ⟨K1 + K2 + K3, fun k hk => ?_⟩
  unfold pelorusref05_Of.f
  rw [h1' k (by omega), Option.bind_some, h2 k (by omega), Option.bind_some, h3 k (by omega), Option.bind_some, e]
end Go.Proofs.YtkemnoejpbknhaaDoor.T
