/- What is rounded down is not above the number, what is rounded up not below; between both there is no other one. -/
import Derived.Test.YtkemnoejpbknhaaDoorPAx2
import Derived.Test.YtkemnoejpbknhaaDoorTQ3
namespace Go.Proofs.YtkemnoejpbknhaaDoor.Pure
set_option linter.unusedVariables false
set_option linter.unusedSimpArgs false
open Go.RowKit Go.Proofs.YtkemnoejpbknhaaDoorW.PrintWords Go.Proofs.YtkemnoejpbknhaaDoorW.PrintMore Go.Proofs.YtkemnoejpbknhaaDoor.PA Go.Proofs.YtkemnoejpbknhaaDoor.T

theorem bl_len {l : List Int} (h : U l) : bl (val l) ≤ ((32 * l.length : Nat) : Int) := by
  refine bl_le ?_
  have := val_lt h
  rw [p2_limb] at this
  exact Int.lt_of_lt_of_le this (p2_mono (by omega))
theorem bl_of_abs {S : Int} {N : Nat} (h : (S.natAbs : Int) < 2 ^ N) : bl S.natAbs ≤ N := bl_le h
theorem NumTight : peloruslaw05_NumTight.Pure := by
  intro x ox
  obtain ⟨Ka, ha⟩ := awake_ev
  have ux : U x.f0.f1 := U_of_wf ox.1.2.2.2
  by_cases hx : x.f0.f1.length ≤ 20 ∧ -1000 ≤ x.f1 ∧ x.f1 ≤ 1000
  case neg =>
    refine ⟨Ka + 1, ?_, fun r hr => by rw [ha _ (by omega)] at hr; exact (Option.some.inj hr).symm⟩
    unfold peloruslaw05_NumTight.f
    rw [ha _ (by omega), Option.bind_some, few_eq, Option.bind_some, decide_eq_false hx, if_pos rfl]
    rfl
  have z := few_z (n := x.f0.f0) ux hx.1 hx.2.1 hx.2.2
  obtain ⟨d, hd⟩ := Dv.ex (sg x.f0.f0 (val x.f0.f1)) x.f1
  obtain ⟨S, hS⟩ : ∃ S, S = sg x.f0.f0 (val x.f0.f1) * 2 ^ (x.f1 + 1000).toNat := ⟨_, rfl⟩
  have bd := z.bd
  have bb := bl_of_abs bd
  have bb0 := bl_nonneg (S.natAbs : Int)
  -- what it is rounded to
  have rd_ : ∀ up, rdv d up = rnz S (-1000) up := by
    intro up
    by_cases h0 : sg x.f0.f0 (val x.f0.f1) = 0
    · rw [h0] at hd
      rw [rdv_zero hd, hS, h0, Int.zero_mul]
      unfold rnz
      rw [if_pos rfl]
    · have hb := bl_len ux
      have hv := sg_abs x.f0.f0 (val_nonneg ux)
      rw [rdv_eq hd up h0 (by omega) (by rw [hv]; omega), hS]
      have := rnz_scale (sg x.f0.f0 (val x.f0.f1)) (-1000) (x.f1 + 1000).toNat up
      rw [this, show (-1000 : Int) + ((x.f1 + 1000).toNat : Nat) = x.f1 by omega]
  rw [← hS] at z bd bb
  obtain ⟨t1, t2, g1, g2, e1, e2, tc⟩ := rnz_tight (S := S) (f := -1000) (g := -1100) (X := 2000) (by decide) (by omega) (by decide) (by decide) (by decide) (by decide)
  obtain ⟨K1, h1⟩ := nround_ev x.f0.f0 x.f0.f1 x.f1 ux (by omega) hd false
  obtain ⟨K2, h2⟩ := nround_ev x.f0.f0 x.f0.f1 x.f1 ux (by omega) hd true
  rw [rd_] at h1 h2
  have m1 := rnz_may S (-1000) false
  have m2 := rnz_may S (-1000) true
  obtain ⟨p, zp, rp, K3, h3⟩ := nexact_z m1 t1 (g := -1100) (by decide) (by decide) g1 (by omega)
  obtain ⟨q, zq, rq, K4, h4⟩ := nexact_z m2 t2 (g := -1100) (by decide) (by decide) g2 (by omega)
  have zd := z.down 100
  rw [show (-1000 : Int) - (100 : Nat) = -1100 by decide] at zd
  have up : ∀ {n : Bool} {l : List Int} {e f S : Int} {N : Nat}, Z n l e f S N → N ≤ 20000 → Z n l e f S 20000 := fun h hN => ⟨h.u, h.len, h.lo, h.hi, h.eq, abs_mono h.bd hN⟩
  have zp := up zp (by omega)
  have zq := up zq (by omega)
  have zd := up zd (by decide)
  obtain ⟨K5, h5⟩ := cmp_z zp zd (by decide) (by decide) (by decide)
  obtain ⟨K6, h6⟩ := cmp_z zq zd (by decide) (by decide) (by decide)
  rw [show ((-1000 : Int) - -1100).toNat = 100 by decide] at tc
  have nx := kv_up m1 (fun h => absurd h t1)
  generalize rnz S (-1000) false = a at *
  generalize rnz S (-1000) true = b at *
  generalize S * 2 ^ 100 = C at *
  refine ⟨Ka + K1 + K2 + K3 + K4 + K5 + K6 + 9, ?_, fun r hr => by rw [ha _ (by omega)] at hr; exact (Option.some.inj hr).symm⟩
  unfold peloruslaw05_NumTight.f
  rw [ha _ (by omega), Option.bind_some, few_eq, Option.bind_some, decide_eq_true hx, if_pos rfl]
  simp only [peloruslaw05_NumTight.j0, Bool.not_true, Bool.false_eq_true, if_false]
  rw [h1 _ (by omega), Option.bind_some, h2 _ (by omega), Option.bind_some, h3 _ (by omega), Option.bind_some, h4 _ (by omega), Option.bind_some, if_pos rfl, if_pos rfl, h5 _ (by omega), Option.bind_some]
  rcases tc with ⟨rfl, hA⟩ | ⟨hA, hB, hk⟩
  · rw [hA, Int.sub_self, sgn_zero] at h5 h6
    rw [hA, Int.sub_self, sgn_zero, if_neg (by decide), h6 _ (by omega), Option.bind_some, decide_eq_false (by decide)]
    simp only [peloruslaw05_NumTight.j1, Bool.false_eq_true, if_false]
    rw [nm_beq rfl, if_pos rfl, h5 _ (by omega), Option.bind_some, if_pos rfl]
  · generalize sv a * 2 ^ (a.2.2.2 - -1100).toNat = A at *
    generalize sv b * 2 ^ (b.2.2.2 - -1100).toNat = B at *
    rw [sgn_neg (show A - C < 0 by omega)] at h5
    rw [sgn_pos (show 0 < B - C by omega)] at h6
    rw [sgn_neg (show A - C < 0 by omega), if_neg (by decide), h6 _ (by omega), Option.bind_some, decide_eq_false (by decide)]
    simp only [peloruslaw05_NumTight.j1, Bool.false_eq_true, if_false]
    have en : nextv a true = b := kv_inj (nextv_may m1 true) m2 (by omega)
    have ne : (a.1 == b.1 && (a.2.1 == b.2.1 && (a.2.2.1 == b.2.2.1 && (a.2.2.2 == b.2.2.2)))) = false := by
      rw [nm_beq', decide_eq_false]
      rintro rfl
      omega
    rw [ne, if_neg (by decide), nxt_g _ (by omega) true m1, Option.bind_some, en, nm_beq rfl, if_pos rfl, h5 _ (by omega), Option.bind_some, if_pos (by decide), h6 _ (by omega), Option.bind_some]
    rfl
end Go.Proofs.YtkemnoejpbknhaaDoor.Pure
