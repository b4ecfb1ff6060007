/- Whether any number may be, its sign, its opposite, the next ones, and the order of any two, are what the document says; so is it as a dyadic one. -/
import Derived.Test.YtkemnoejpbknhaaDoorPAx2
import Derived.Test.YtkemnoejpbknhaaDoorTQ3
namespace Go.Proofs.YtkemnoejpbknhaaDoor.Pure
set_option linter.unusedVariables false
set_option linter.unusedSimpArgs false
open Go.RowKit Go.Proofs.YtkemnoejpbknhaaDoorW.PrintWords Go.Proofs.YtkemnoejpbknhaaDoorW.PrintMore Go.Proofs.YtkemnoejpbknhaaDoor.PA Go.Proofs.YtkemnoejpbknhaaDoor.T

theorem ralike_ev (d : Dd) (hl : d.2.1.length ≤ 4611686018427387903) : ∃ K, ∀ k, K ≤ k → pelorusref03_Alike.f k d.1 d.2.1 d.2.2 d.1 d.2.1 d.2.2 = some true := by
  obtain ⟨K, h⟩ := alike_ev (d.1, d.2.1) hl
  refine ⟨K, fun k hk => ?_⟩
  unfold pelorusref03_Alike.f
  rw [h k hk, Option.bind_some, if_pos rfl, beq_self_eq_true]
/-- Both as a dyadic one. -/
theorem exact_both {x : S30} (ox : ok30 x) : ∃ d : Dd, ∃ b : Bool, d.2.1.length ≤ 100 ∧ (∃ K, ∀ k, K ≤ k → num_Exact.f k x.f0 x.f1 x.f2 x.f3 = some (d.1, d.2.1, d.2.2, b)) ∧ (∃ K, ∀ k, K ≤ k → pelorusref05_Exact.f k x.f0 x.f1 x.f2 x.f3 = some (d.1, d.2.1, d.2.2, b)) := by
  by_cases hm : mayP (x.f0, x.f1, x.f2, x.f3) ∧ x.f0 ≠ 2
  · obtain ⟨d, rd, h1⟩ := nexact_ev hm.1 hm.2
    obtain ⟨d', rd', b0, b1, h2⟩ := ex_ev hm.1 hm.2
    have rd' := rd' 0
    rw [Int.pow_zero, Int.mul_one, Int.natCast_zero, Int.sub_zero] at rd'
    obtain rfl := rd.un rd'
    refine ⟨d, true, ?_, h1, h2⟩
    rcases rd.val with ⟨_, rfl⟩ | ⟨t, hE, hS, o, o0, o1, ho, hs⟩
    · simp
    · have b2 := Int.mul_le_mul_of_nonneg_left (show 1 ≤ (2 : Int) ^ t by have := p2_pos t; omega) (show 0 ≤ o by omega)
      have sb := sv_bd hm.1
      have hl := len_lim (v := o) (by omega) 64 (by omega)
      rw [ho]; omega
  · refine ⟨(false, [], 0), false, by simp, ⟨1, fun k hk => ?_⟩, ⟨1, fun k hk => ?_⟩⟩
    · obtain ⟨k, rfl⟩ : ∃ m, k = m + 1 := ⟨k - 1, by omega⟩
      unfold num_Exact.f
      rw [may_s ox, Option.bind_some]
      by_cases h2 : mayP (x.f0, x.f1, x.f2, x.f3)
      · have : x.f0 = 2 := by
          apply Classical.byContradiction
          intro h3; exact hm ⟨h2, h3⟩
        rw [if_pos (decide_eq_true h2), this]
        rfl
      · rw [if_neg (by simpa using h2)]
        rfl
    · obtain ⟨k, rfl⟩ : ∃ m, k = m + 1 := ⟨k - 1, by omega⟩
      unfold pelorusref05_Exact.f
      rw [may5_eq _ _ _ _ (m_lt ox.2.2.1), Option.bind_some]
      by_cases h2 : mayP (x.f0, x.f1, x.f2, x.f3)
      · have : x.f0 = 2 := by
          apply Classical.byContradiction
          intro h3; exact hm ⟨h2, h3⟩
        rw [if_pos (decide_eq_true h2), this]
        rfl
      · rw [if_neg (by simpa using h2)]
        rfl
theorem rsign_s {x : S30} (ox : ok30 x) : pelorusref05_Sign.f x.f0 x.f1 x.f2 x.f3 = some (sgn (kv (nm x))) := by
  rw [← rsign_g (nm_may x)]
  unfold pelorusref05_Sign.f
  rw [rfair_s ox, ← nm_s30 (nm_may x), show pelorusref05_fair.f (nm (s30 (nm x))).1 (nm (s30 (nm x))).2.1 (nm (s30 (nm x))).2.2.1 (nm (s30 (nm x))).2.2.2 = some (nm (s30 (nm x))) by
    have := rfair_s (ok_may (nm_may x))
    rw [nm_s30 (nm_may x)] at this ⊢
    exact this]
theorem rnext_s {x : S30} (ox : ok30 x) (up : Bool) : pelorusref05_Next.f x.f0 x.f1 x.f2 x.f3 up = some (nextv (nm x) up) := by
  have hm := nm_may x
  unfold pelorusref05_Next.f nextv
  rw [rfair_s ox, Option.bind_some]
  generalize nm x = n at *
  rcases hm with ⟨h1, h2, h3, h4⟩ | ⟨h1, h2, h3, h4, h5⟩ | ⟨h1, h2, h3⟩
  · rw [if_neg (by omega), if_pos h1, if_pos h1]
  · have e0 : ¬ n.1 = 0 := by omega
    have e2 : ¬ n.1 = 2 := by omega
    simp only [e0, e2, if_false]
    by_cases hu : n.2.1 = up
    · have b1 : (n.2.1 != up) = false := by simp [hu]
      have b2 : ¬ n.2.1 ≠ up := fun h => h hu
      simp only [b1, Bool.false_eq_true, if_false]
      rw [if_neg b2]
      by_cases hq : n.2.2.1 = 9223372036854775808
      · simp only [if_pos hq]
        rw [w64 (by omega) (by omega), fin5_eq, Option.bind_some]
      · simp only [if_neg hq]
        rw [u64w (by omega) (by omega)]
    · have b1 : (n.2.1 != up) = true := by simp [hu]
      simp only [b1, if_true]
      rw [if_pos hu]
      unfold grw
      rw [if_pos (c := true = true ∧ true = true) ⟨rfl, rfl⟩]
      by_cases hq : n.2.2.1 = 18446744073709551615
      · rw [if_pos hq, if_pos (by omega), w64 (by omega) (by omega), fin5_eq, Option.bind_some]
      · rw [if_neg hq, if_neg (by omega), bnd_in (by omega) (by omega), u64w (by omega) (by omega), h1]
  · have e0 : ¬ n.1 = 0 := by omega
    simp only [e0, h1, if_false, if_true]
    by_cases hu : n.2.1 = up
    · have b1 : (n.2.1 == up) = true := by simp [hu]
      rw [if_pos b1, if_pos hu, if_neg (by decide)]
    · have b1 : ¬ (n.2.1 == up) = true := by simp [hu]
      rw [if_neg b1, if_neg hu, if_neg (by decide), ← h1]
theorem NumTells : peloruslaw05_NumTells.Pure := by
  intro x y up ox oy
  obtain ⟨Ka, ha⟩ := awake_ev
  obtain ⟨d, b, dl, ⟨K1, h1⟩, K2, h2⟩ := exact_both ox
  obtain ⟨K3, h3⟩ := ralike_ev d (by omega)
  refine ⟨Ka + K1 + K2 + K3 + 9, ?_, fun r hr => by rw [ha _ (by omega)] at hr; exact (Option.some.inj hr).symm⟩
  unfold peloruslaw05_NumTells.f
  rw [ha _ (by omega), Option.bind_some, h1 _ (by omega), Option.bind_some, h2 _ (by omega), Option.bind_some, h3 _ (by omega), Option.bind_some, if_pos rfl, if_pos rfl, if_pos (beq_self_eq_true _), may_s ox, Option.bind_some, may5_eq _ _ _ _ (m_lt ox.2.2.1), Option.bind_some, if_pos (beq_self_eq_true _),
    sgn_s ox, Option.bind_some, rsign_s ox, Option.bind_some, if_pos rfl, neg_s ox, Option.bind_some, neg5_eq _ _ _ _ (m_lt ox.2.2.1), Option.bind_some, show ngv (fairv (x.f0, x.f1, x.f2, x.f3)) = ngv (nm x) from rfl, nm_beq rfl, if_pos rfl, next_s _ (by omega) up ox, Option.bind_some, rnext_s ox up, Option.bind_some, nm_beq rfl, if_pos rfl, cmp_ss ox oy, Option.bind_some, rcmp_ss ox oy _ (by omega), Option.bind_some, if_pos rfl]
  unfold num_Infinite.f pelorusref05_Infinite.f
  simp
end Go.Proofs.YtkemnoejpbknhaaDoor.Pure
