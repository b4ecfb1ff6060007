/- The order of three numbers holds; opposites turn it; the least is one of them, and none is less. -/
import Derived.Test.YtkemnoejpbknhaaDoorPAx2
import Derived.Test.YtkemnoejpbknhaaDoorTW
namespace Go.Proofs.YtkemnoejpbknhaaDoor.Pure
set_option linter.unusedVariables false
set_option linter.unusedSimpArgs false
open Go.RowKit Go.Proofs.YtkemnoejpbknhaaDoorW.PrintWords Go.Proofs.YtkemnoejpbknhaaDoorW.PrintMore Go.Proofs.YtkemnoejpbknhaaDoor.PA Go.Proofs.YtkemnoejpbknhaaDoor.T

theorem w_sgn (x : Int) : wrap64 (-sgn x) = -sgn x := by
  rcases Int.lt_trichotomy x 0 with h | h | h
  · rw [sgn_neg h]; exact w64 (by decide) (by decide)
  · subst h; exact w64 (by decide) (by decide)
  · rw [sgn_pos h]; exact w64 (by decide) (by decide)
theorem order_j0 (k : Nat) (hk : 10 ≤ k) {a b c : S30} (ha : ok30 a) (hb : ok30 b) (hc : ok30 c) {l m : Nm} (hl : mayP l) (hm : mayP m) (el : kv l = min (min (kv (nm a)) (kv (nm b))) (kv (nm c))) (em : kv m = max (max (kv (nm a)) (kv (nm b))) (kv (nm c))) :
    peloruslaw05_NumOrder.j0 (k + 2) true false a.f0 a.f1 a.f2 a.f3 b.f0 b.f1 b.f2 b.f3 c.f0 c.f1 c.f2 c.f3 l.1 l.2.1 l.2.2.1 l.2.2.2 m.1 m.2.1 m.2.2.1 m.2.2.2 = some true := by
  have ma := nm_may a
  have mb := nm_may b
  have mc := nm_may c
  have j1 : peloruslaw05_NumOrder.j1 (k + 1) true true a.f0 a.f1 a.f2 a.f3 b.f0 b.f1 b.f2 b.f3 c.f0 c.f1 c.f2 c.f3 l.1 l.2.1 l.2.2.1 l.2.2.2 m.1 m.2.1 m.2.2.1 m.2.2.2 = some true := by
    have le0 : ∀ {x : Int}, x ≤ 0 → sgn x ≤ 0 := fun {x} h => by have := (sgn_gt0 (x := x)).1; omega
    have ge0 : ∀ {x : Int}, 0 ≤ x → sgn x ≥ 0 := fun {x} h => by have := (sgn_lt0 (x := x)).1; omega
    have hle := least_ev [s30 (ngv (nm a)), s30 (ngv (nm b)), s30 (ngv (nm c))] (by simp) (by
      intro x hx
      simp only [List.mem_cons, List.not_mem_nil, or_false] at hx
      rcases hx with rfl | rfl | rfl
      · exact ok_may (ngv_may ma)
      · exact ok_may (ngv_may mb)
      · exact ok_may (ngv_may mc)) k (by simp; omega)
    have e : ngv m = lesv (infn false) [s30 (ngv (nm a)), s30 (ngv (nm b)), s30 (ngv (nm c))] := by
      refine kv_inj (ngv_may hm) (lesv_may _ (inf_may _)) ?_
      rw [lesv3, nm_s30 (ngv_may ma), nm_s30 (ngv_may mb), nm_s30 (ngv_may mc), kv_neg, kv_neg, kv_neg, kv_neg, em]
      omega
    simp only [peloruslaw05_NumOrder.j1]
    rw [if_pos trivial, if_pos trivial, cmp_ns hl ha, Option.bind_some, if_pos (le0 (by omega)), cmp_ns hl hb, Option.bind_some, if_pos (le0 (by omega)), cmp_ns hl hc, Option.bind_some, if_pos (le0 (by omega)), cmp_g hm hl, Option.bind_some, if_pos (ge0 (by omega)), cmp_ns hm hb, Option.bind_some, if_pos (ge0 (by omega)),
      neg_g _ hm, Option.bind_some, neg_s ha, Option.bind_some, neg_s hb, Option.bind_some, neg_s hc, Option.bind_some]
    refine (congrArg (fun z => Option.bind z _) hle).trans ?_
    rw [Option.bind_some, nm_beq e]
  simp only [peloruslaw05_NumOrder.j0]
  rw [if_neg (by decide), cmp_ns hl ha, Option.bind_some, cmp_ns hl hb, cmp_ns hl hc]
  by_cases h1 : sgn (kv l - kv (nm a)) = 0
  · rw [if_pos h1]; exact j1
  · rw [if_neg h1, Option.bind_some]
    by_cases h2 : sgn (kv l - kv (nm b)) = 0
    · rw [if_pos h2]; exact j1
    · rw [if_neg h2, Option.bind_some]
      have h1' : kv l - kv (nm a) ≠ 0 := fun h => h1 (sgn0_kv.2 h)
      have h2' : kv l - kv (nm b) ≠ 0 := fun h => h2 (sgn0_kv.2 h)
      rw [show (sgn (kv l - kv (nm c)) == 0) = true from beq_iff_eq.2 (sgn0_kv.2 (by omega))]
      exact j1
theorem NumOrder : peloruslaw05_NumOrder.Pure := by
  intro a b c ha hb hc
  obtain ⟨K, hK⟩ := awake_ev
  refine ⟨K + 20, ?_, fun r hr => by rw [hK _ (by omega)] at hr; exact (Option.some.inj hr).symm⟩
  obtain ⟨k, hk⟩ : ∃ k, K + 20 = k + 2 := ⟨K + 18, by omega⟩
  have hok : ∀ x ∈ [a, b, c], ok30 x := by
    intro x hx
    simp only [List.mem_cons, List.not_mem_nil, or_false] at hx
    rcases hx with rfl | rfl | rfl
    · exact ha
    · exact hb
    · exact hc
  have hl := least_ev [a, b, c] (by simp) hok (K + 20) (by simp)
  have hm := most_ev [a, b, c] (by simp) hok (K + 20) (by simp)
  have key := order_j0 k (by omega) ha hb hc (lesv_may [a, b, c] (inf_may false)) (mosv_may [a, b, c] (inf_may true)) (lesv3 a b c) (mosv3 a b c)
  generalize lesv (infn false) [a, b, c] = l at *
  generalize mosv (infn true) [a, b, c] = m at *
  have ngs : ∀ {x y : Nm}, mayP x → mayP y → (sgn (kv (ngv x) - kv (ngv y)) != -sgn (kv x - kv y)) = false := by
    intro x y hx hy
    rw [kv_neg, kv_neg, show -kv x - -kv y = -(kv x - kv y) by omega, sgn_opp]
    simp
  have hop : sgn (kv (nm b) - kv (nm a)) = -sgn (kv (nm a) - kv (nm b)) := by rw [← sgn_opp]; congr 1; omega
  unfold peloruslaw05_NumOrder.f
  rw [hK _ (by omega), Option.bind_some, cmp_ss ha hb, Option.bind_some, cmp_ss hb hc, Option.bind_some]
  refine (congrArg (fun z => Option.bind z _) hl).trans ?_
  rw [Option.bind_some]
  refine (congrArg (fun z => Option.bind z _) hm).trans ?_
  rw [Option.bind_some, cmp_ss ha hc, cmp_ss hb ha, neg_s ha, neg_s hb, w_sgn, hk]
  simp only [Option.bind_some]
  rw [cmp_g (ngv_may (nm_may a)) (ngv_may (nm_may b))]
  simp only [Option.bind_some]
  rw [if_pos hop, ngs (nm_may a) (nm_may b)]
  by_cases h1 : sgn (kv (nm a) - kv (nm b)) ≤ 0
  · rw [if_pos h1]
    by_cases h2 : sgn (kv (nm b) - kv (nm c)) ≤ 0
    · rw [if_pos h2, if_neg (fun h => by
        have q1 := (sgn_gt0 (x := kv (nm a) - kv (nm c))).1 h
        have q2 := (sgn_gt0 (x := kv (nm a) - kv (nm b))).2
        have q3 := (sgn_gt0 (x := kv (nm b) - kv (nm c))).2
        omega)]
      exact key
    · rw [if_neg h2]; exact key
  · rw [if_neg h1]; exact key
end Go.Proofs.YtkemnoejpbknhaaDoor.Pure
