/- The next number above is one step greater, the next below one step less; opposites turn it. -/
import Derived.Test.YtkemnoejpbknhaaDoorPAx2
import Derived.Test.YtkemnoejpbknhaaDoorTQ2
namespace Go.Proofs.YtkemnoejpbknhaaDoor.Pure
set_option linter.unusedVariables false
set_option linter.unusedSimpArgs false
open Go.RowKit Go.Proofs.YtkemnoejpbknhaaDoorW.PrintWords Go.Proofs.YtkemnoejpbknhaaDoorW.PrintMore Go.Proofs.YtkemnoejpbknhaaDoor.PA Go.Proofs.YtkemnoejpbknhaaDoor.T

theorem next_law (k : Nat) (hk : 4 ≤ k) (b : Bool) (n : Nm) (hn : mayP n) (h2 : n.1 ≠ 2) : peloruslaw05_NumNext.j0 (k + 1) true false n.1 n.2.1 n.2.2.1 n.2.2.2 = some true := by
  have u1 := kv_up hn (fun h => absurd h h2)
  have d1 := kv_dn hn (fun h => absurd h h2)
  have fb := kv_fin hn h2
  have mu := nextv_may hn true
  have md := nextv_may hn false
  have mn := ngv_may hn
  have n2 : (ngv n).1 ≠ 2 := by unfold ngv; split <;> simp_all
  have e1 : nextv (nextv n true) false = n := by
    refine kv_inj (nextv_may mu false) hn ?_
    rw [kv_dn mu, u1]
    · omega
    · intro h
      cases hx : (nextv n true).2.1
      · rfl
      · have := kv_ninf h hx; omega
  have e2 : nextv (nextv n false) true = n := by
    refine kv_inj (nextv_may md true) hn ?_
    rw [kv_up md, d1]
    · omega
    · intro h
      cases hx : (nextv n false).2.1
      · have := kv_pinf h hx; omega
      · rfl
  have e3 : ngv (nextv n true) = nextv (ngv n) false := by
    refine kv_inj (ngv_may mu) (nextv_may mn false) ?_
    rw [kv_neg, u1, kv_dn mn (fun h => absurd h n2), kv_neg]
    omega
  simp only [peloruslaw05_NumNext.j0]
  rw [if_neg (by decide), nxt_g k hk true hn, Option.bind_some, nxt_g k hk false hn, Option.bind_some, if_pos trivial, cmp_g mu hn, Option.bind_some, sgn_up u1, if_pos (by decide), cmp_g md hn, Option.bind_some, sgn_dn d1, if_pos (by decide), nxt_g k hk false mu, Option.bind_some, e1, nm_beq rfl, if_pos rfl,
    nxt_g k hk true md, Option.bind_some, e2, nm_beq rfl, if_pos rfl, neg_g _ mu, Option.bind_some, neg_g _ hn, Option.bind_some, nxt_g k hk false mn, Option.bind_some, nm_beq e3]
theorem NumNext : peloruslaw05_NumNext.Pure := by
  intro x hx
  obtain ⟨K, hK⟩ := awake_ev
  refine ⟨K + 5, ?_, fun r hr => by rw [hK _ (by omega)] at hr; exact (Option.some.inj hr).symm⟩
  obtain ⟨k, hk⟩ : ∃ k, K + 5 = k + 1 := ⟨K + 4, by omega⟩
  unfold peloruslaw05_NumNext.f
  rw [hK _ (by omega), Option.bind_some, may_s hx, Option.bind_some, hk]
  by_cases hm : mayP (x.f0, x.f1, x.f2, x.f3)
  · rw [decide_eq_true hm, if_pos rfl]
    by_cases h2 : x.f0 = 2
    · rw [h2]
      simp [peloruslaw05_NumNext.j0]
    · have : (x.f0 == 2) = false := beq_eq_false_iff_ne.2 h2
      rw [this]
      exact next_law k (by omega) true (x.f0, x.f1, x.f2, x.f3) hm h2
  · rw [decide_eq_false hm, if_neg (by decide)]
    simp [peloruslaw05_NumNext.j0]
end Go.Proofs.YtkemnoejpbknhaaDoor.Pure
