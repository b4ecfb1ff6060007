/- A finite number that may be is rounded to itself, whichever way; one that is rounded less is not greater. -/
import Derived.Test.YtkemnoejpbknhaaDoorPAx2
import Derived.Test.YtkemnoejpbknhaaDoorTQ3
namespace Go.Proofs.YtkemnoejpbknhaaDoor.Pure
set_option linter.unusedVariables false
set_option linter.unusedSimpArgs false
open Go.RowKit Go.Proofs.YtkemnoejpbknhaaDoorW.PrintWords Go.Proofs.YtkemnoejpbknhaaDoorW.PrintMore Go.Proofs.YtkemnoejpbknhaaDoor.PA Go.Proofs.YtkemnoejpbknhaaDoor.T

theorem bl_len {l : List Int} (h : U l) : bl (val l) ≤ ((32 * l.length : Nat) : Int) := by
  refine bl_le ?_
  have := val_lt h
  rw [p2_limb] at this
  exact Int.lt_of_lt_of_le this (p2_mono (by omega))
/-- A number with few limbs and a small power, rounded: of its value at the power -1000. -/
theorem few_round {n : Bool} {l : List Int} {e : Int} (h : U l) (hl : l.length ≤ 20) (e0 : -1000 ≤ e) (e1 : e ≤ 1000) (up : Bool) :
    ∃ K, ∀ k, K ≤ k → num_Round.f k n l e up = some (rnz (sg n (val l) * 2 ^ (e + 1000).toNat) (-1000) up) := by
  obtain ⟨d, hd⟩ := Dv.ex (sg n (val l)) e
  obtain ⟨K, hK⟩ := nround_ev n l e h (by omega) hd up
  refine ⟨K, fun k hk => ?_⟩
  rw [hK k hk]
  congr 1
  by_cases h0 : sg n (val l) = 0
  · rw [h0] at hd
    rw [rdv_zero hd, h0, Int.zero_mul]
    unfold rnz
    rw [if_pos rfl]
  · have hb := bl_len h
    have hv := sg_abs n (val_nonneg h)
    rw [rdv_eq hd up h0 (by omega) (by rw [hv]; omega)]
    have := rnz_scale (sg n (val l)) (-1000) (e + 1000).toNat up
    rw [this, show (-1000 : Int) + ((e + 1000).toNat : Nat) = e by omega]
theorem sgn_le0 {x : Int} (h : x ≤ 0) : sgn x ≤ 0 := by
  rcases Int.lt_or_eq_of_le h with h1 | h1
  · rw [sgn_neg h1]; decide
  · rw [h1, sgn_zero]; decide
theorem rep_dv {d : Dd} {s e : Int} (h : Rep d s e) (e0 : -4194304 ≤ e) (hb : (s.natAbs : Int) < 2 ^ 64) (e1 : e ≤ 4000000) : Dv d s e := by
  rcases h with h | ⟨o, t, o0, o1, s0, hs, hd⟩
  · exact .inl h
  · have b1 := mul_le_p t (show 1 ≤ o by omega)
    have ht := p2_lt (show (2 : Int) ^ t < 2 ^ 64 by omega)
    exact .inr ⟨o, t, o0, o1, s0, hs, by rw [if_pos ⟨e0, by omega, by omega⟩]; exact hd⟩
theorem NumBack : peloruslaw05_NumBack.Pure := by
  intro n x y up on ox oy
  obtain ⟨Ka, ha⟩ := awake_ev
  have ux : U x.f0.f1 := U_of_wf ox.1.2.2.2
  have uy : U y.f0.f1 := U_of_wf oy.1.2.2.2
  have out : ∀ k, peloruslaw05_NumBack.j0 (k + 1) up true true n.f0 n.f1 n.f2 n.f3 x.f0.f0 x.f0.f1 x.f1 y.f0.f0 y.f0.f1 y.f1 = some true := fun _ => rfl
  by_cases hx : x.f0.f1.length ≤ 20 ∧ -1000 ≤ x.f1 ∧ x.f1 ≤ 1000
  case neg =>
    refine ⟨Ka + 1, ?_, fun r hr => by rw [ha _ (by omega)] at hr; exact (Option.some.inj hr).symm⟩
    unfold peloruslaw05_NumBack.f
    rw [ha _ (by omega), Option.bind_some, few_eq, Option.bind_some, few_eq, Option.bind_some, decide_eq_false hx, if_pos rfl, if_neg (by decide)]
    exact out Ka
  by_cases hy : y.f0.f1.length ≤ 20 ∧ -1000 ≤ y.f1 ∧ y.f1 ≤ 1000
  case neg =>
    refine ⟨Ka + 1, ?_, fun r hr => by rw [ha _ (by omega)] at hr; exact (Option.some.inj hr).symm⟩
    unfold peloruslaw05_NumBack.f
    rw [ha _ (by omega), Option.bind_some, few_eq, Option.bind_some, few_eq, Option.bind_some, decide_eq_true hx, decide_eq_false hy, if_pos rfl, if_pos rfl, if_neg (by decide)]
    exact out Ka
  by_cases n1 : n.f3 > 1000
  case pos =>
    refine ⟨Ka + 1, ?_, fun r hr => by rw [ha _ (by omega)] at hr; exact (Option.some.inj hr).symm⟩
    unfold peloruslaw05_NumBack.f
    rw [ha _ (by omega), Option.bind_some, few_eq, Option.bind_some, few_eq, Option.bind_some, decide_eq_true hx, decide_eq_true hy, if_pos rfl, if_pos rfl, if_pos rfl, if_pos n1]
    exact out Ka
  by_cases n2 : n.f3 < -1000
  case pos =>
    refine ⟨Ka + 1, ?_, fun r hr => by rw [ha _ (by omega)] at hr; exact (Option.some.inj hr).symm⟩
    unfold peloruslaw05_NumBack.f
    rw [ha _ (by omega), Option.bind_some, few_eq, Option.bind_some, few_eq, Option.bind_some, decide_eq_true hx, decide_eq_true hy, if_pos rfl, if_pos rfl, if_pos rfl, if_neg n1, decide_eq_true n2]
    exact out Ka
  have zx := few_z (n := x.f0.f0) ux hx.1 hx.2.1 hx.2.2
  have zy := few_z (n := y.f0.f0) uy hy.1 hy.2.1 hy.2.2
  obtain ⟨K1, h1⟩ := cmp_z zx zy (by decide) (by decide) (by decide)
  obtain ⟨K2, h2⟩ := few_round (n := x.f0.f0) ux hx.1 hx.2.1 hx.2.2 up
  obtain ⟨K3, h3⟩ := few_round (n := y.f0.f0) uy hy.1 hy.2.1 hy.2.2 up
  have c4 := cmp_g (rnz_may (sg x.f0.f0 (val x.f0.f1) * 2 ^ (x.f1 + 1000).toNat) (-1000) up) (rnz_may (sg y.f0.f0 (val y.f0.f1) * 2 ^ (y.f1 + 1000).toNat) (-1000) up)
  have mono := @rnz_mono (sg x.f0.f0 (val x.f0.f1) * 2 ^ (x.f1 + 1000).toNat) (sg y.f0.f0 (val y.f0.f1) * 2 ^ (y.f1 + 1000).toNat)
  have last : ∀ k, K1 + K2 + K3 ≤ k → peloruslaw05_NumBack.j1 (k + 1) up false x.f0.f0 x.f0.f1 x.f1 y.f0.f0 y.f0.f1 y.f1 = some true := by
    intro k hk
    simp only [peloruslaw05_NumBack.j1, Bool.false_eq_true, if_false]
    rw [h1 k (by omega), Option.bind_some]
    generalize sg x.f0.f0 (val x.f0.f1) * 2 ^ (x.f1 + 1000).toNat = S at *
    generalize sg y.f0.f0 (val y.f0.f1) * 2 ^ (y.f1 + 1000).toNat = T at *
    by_cases hc : S - T > 0
    · rw [sgn_pos hc, if_pos (by decide)]
    · have m := mono (by omega) (-1000) up
      have hn : ¬ sgn (S - T) > 0 := by have := sgn_le0 (x := S - T) (by omega); omega
      rw [if_neg hn, h2 k (by omega), Option.bind_some, h3 k (by omega), Option.bind_some, c4, Option.bind_some]
      congr 1
      exact decide_eq_true (sgn_le0 (by omega))
  -- the number itself
  by_cases hm : mayP (n.f0, n.f1, n.f2, n.f3) ∧ n.f0 ≠ 2
  · have hm1 := hm.1
    obtain ⟨d, rd, K4, h4⟩ := nexact_ev hm.1 hm.2
    have sb := sv_bd hm.1
    simp only at rd h4
    have dv := rep_dv rd (by omega) sb (by omega)
    have du := dv.U
    have dl := dv.len (L := 2) (by unfold B; rw [p2_limb]; exact sb)
    obtain ⟨K5, h5⟩ := nround_ev d.1 d.2.1 d.2.2 du (by omega) dv.again up
    have e5 : rdv d up = (n.f0, n.f1, n.f2, n.f3) := by
      by_cases h0 : sv (n.f0, n.f1, n.f2, n.f3) = 0
      · have h6 := rnz_sv hm.1 hm.2 up
        rw [h0] at h6 dv
        rw [rdv_zero dv, ← h6]
        unfold rnz
        rw [if_pos rfl]
      · have := bl_le (n := ((sv (n.f0, n.f1, n.f2, n.f3)).natAbs : Int)) sb
        rw [rdv_eq dv up h0 (by omega) (by omega)]
        exact rnz_sv hm.1 hm.2 up
    refine ⟨Ka + K1 + K2 + K3 + K4 + K5 + 3, ?_, fun r hr => by rw [ha _ (by omega)] at hr; exact (Option.some.inj hr).symm⟩
    unfold peloruslaw05_NumBack.f
    rw [ha _ (by omega), Option.bind_some, few_eq, Option.bind_some, few_eq, Option.bind_some, decide_eq_true hx, decide_eq_true hy, if_pos rfl, if_pos rfl, if_pos rfl, if_neg n1, decide_eq_false n2]
    simp only [peloruslaw05_NumBack.j0, Bool.false_eq_true, if_false]
    rw [h4 _ (by omega), Option.bind_some, if_pos rfl, h5 _ (by omega), Option.bind_some, e5]
    simp only [beq_self_eq_true, Bool.not_true, Bool.or_self]
    exact last _ (by omega)
  · -- none, or infinite
    have h4 : ∀ k, 1 ≤ k → num_Exact.f k n.f0 n.f1 n.f2 n.f3 = some (false, [], 0, false) := by
      intro k hk
      obtain ⟨k, rfl⟩ : ∃ m, k = m + 1 := ⟨k - 1, by omega⟩
      unfold num_Exact.f
      rw [may_s on, Option.bind_some]
      by_cases h2 : mayP (n.f0, n.f1, n.f2, n.f3)
      · have : n.f0 = 2 := by
          apply Classical.byContradiction
          intro h3; exact hm ⟨h2, h3⟩
        rw [if_pos (decide_eq_true h2), this]
        rfl
      · rw [if_neg (by simpa using h2)]
        rfl
    refine ⟨Ka + K1 + K2 + K3 + 3, ?_, fun r hr => by rw [ha _ (by omega)] at hr; exact (Option.some.inj hr).symm⟩
    unfold peloruslaw05_NumBack.f
    rw [ha _ (by omega), Option.bind_some, few_eq, Option.bind_some, few_eq, Option.bind_some, decide_eq_true hx, decide_eq_true hy, if_pos rfl, if_pos rfl, if_pos rfl, if_neg n1, decide_eq_false n2]
    simp only [peloruslaw05_NumBack.j0, Bool.false_eq_true, if_false]
    rw [h4 _ (by omega), Option.bind_some, if_neg (by decide)]
    exact last _ (by omega)
end Go.Proofs.YtkemnoejpbknhaaDoor.Pure
