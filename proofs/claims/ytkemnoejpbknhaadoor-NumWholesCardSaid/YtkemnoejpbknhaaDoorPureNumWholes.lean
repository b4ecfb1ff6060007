/- Whole numbers of 64 bits keep their order, their signs and their opposites. -/
import Derived.Test.YtkemnoejpbknhaaDoorPAx2
import Derived.Test.YtkemnoejpbknhaaDoorTQ2
namespace Go.Proofs.YtkemnoejpbknhaaDoor.Pure
set_option linter.unusedVariables false
set_option linter.unusedSimpArgs false
open Go.RowKit Go.Proofs.YtkemnoejpbknhaaDoorW.PrintWords Go.Proofs.YtkemnoejpbknhaaDoorW.PrintMore Go.Proofs.YtkemnoejpbknhaaDoor.PA Go.Proofs.YtkemnoejpbknhaaDoor.T

theorem kv_zero {n : Nm} (h : mayP n) : kv n = 0 ↔ n.1 = 0 := by
  unfold kv sg
  rcases mg_val h with ⟨a1, a2, a3, a4, a5⟩ | ⟨a1, a2, a3, a4, a5, a6⟩ | ⟨a1, a2, a3, a4⟩
  · rw [a5]; simp [a1]
  · split <;> omega
  · split <;> omega
theorem wholes_j1 (k : Nat) (hk : 4 ≤ k) (a b : Int) (a0 : -9223372036854775808 ≤ a) (a1 : a ≤ 9223372036854775807) (b0 : -9223372036854775808 ≤ b) (b1 : b ≤ 9223372036854775807) :
    peloruslaw05_NumWholes.j1 (k + 1) a b true (sgn (a - b)) (ofv a).1 (ofv a).2.1 (ofv a).2.2.1 (ofv a).2.2.2 (ofv b).1 (ofv b).2.1 (ofv b).2.2.1 (ofv b).2.2.2 = some true := by
  have ma := of_may a a0 a1
  have mb := of_may b b0 b1
  have cmp := cmp_g ma mb
  rw [of_kv a b a0 a1 b0 b1] at cmp
  have hs : ((sgn (kv (ofv a)) == 0) == (a == 0)) = true := by
    have := of_kv a 0 a0 a1 (by decide) (by decide)
    rw [show kv (ofv 0) = 0 by rfl, Int.sub_zero, Int.sub_zero] at this
    rw [this]
    by_cases z : a = 0
    · subst z; rfl
    · have := sgn_ne z
      rw [beq_eq_false_iff_ne.2 this, beq_eq_false_iff_ne.2 z]; rfl
  have he : (((ofv a).1 == (ofv b).1 && ((ofv a).2.1 == (ofv b).2.1 && ((ofv a).2.2.1 == (ofv b).2.2.1 && ((ofv a).2.2.2 == (ofv b).2.2.2)))) == (a == b)) = true := by
    rw [nm_beq']
    by_cases z : a = b
    · subst z; simp
    · have : ofv a ≠ ofv b := by
        intro h
        have := of_kv a b a0 a1 b0 b1
        rw [h, Int.sub_self] at this
        exact sgn_ne (show a - b ≠ 0 by omega) this.symm
      rw [decide_eq_false this, beq_eq_false_iff_ne.2 z]; rfl
  have h2 : ((ofv a).1 != 2) = true := bne_iff_ne.2 (of_ne2 a)
  simp only [peloruslaw05_NumWholes.j1]
  by_cases hg : a > -9223372036854775808
  · rw [if_pos hg, neg_g _ ma, Option.bind_some, w64 (by omega) (by omega), of_g k (by omega) (-a) (by omega) (by omega), Option.bind_some, if_pos trivial, cmp, Option.bind_some, if_pos rfl, may_g ma, Option.bind_some, if_pos rfl, of_neg]
    rw [if_neg (by simp), sgn_kv ma, Option.bind_some, hs, if_pos rfl, he, if_pos rfl, h2]
  · rw [if_neg hg, if_pos trivial, cmp, Option.bind_some, if_pos rfl, may_g ma, Option.bind_some, if_pos rfl, sgn_kv ma, Option.bind_some, hs, if_pos rfl, he, if_pos rfl, h2]
theorem NumWholes : peloruslaw05_NumWholes.Pure := by
  intro a b ha hb
  have wa := i64_of_wf ha
  have wb := i64_of_wf hb
  obtain ⟨K, hK⟩ := awake_ev
  refine ⟨K + 6, ?_, fun r hr => by rw [hK _ (by omega)] at hr; exact (Option.some.inj hr).symm⟩
  obtain ⟨k, hk⟩ : ∃ k, K + 6 = k + 2 := ⟨K + 4, by omega⟩
  have key := wholes_j1 k (by omega) a b (by omega) (by omega) (by omega) (by omega)
  unfold peloruslaw05_NumWholes.f
  rw [hK _ (by omega), Option.bind_some, of_g _ (by omega) a (by omega) (by omega), Option.bind_some, of_g _ (by omega) b (by omega) (by omega), Option.bind_some, hk]
  rcases Int.lt_trichotomy a b with h | h | h
  · rw [sgn_neg (by omega)] at key
    rw [if_pos h]
    simp only [peloruslaw05_NumWholes.j0]
    rw [if_neg (by omega)]
    exact key
  · subst h
    rw [Int.sub_self, sgn_zero] at key
    rw [if_neg (by omega)]
    simp only [peloruslaw05_NumWholes.j0]
    rw [if_neg (by omega)]
    exact key
  · rw [sgn_pos (by omega)] at key
    rw [if_neg (by omega)]
    simp only [peloruslaw05_NumWholes.j0]
    rw [if_pos h]
    exact key
end Go.Proofs.YtkemnoejpbknhaaDoor.Pure
