/- Of a greater number the sum with another one is not less, to either side; with one that is not below nought the product is not less, with one below nought not greater. -/
import Derived.Test.YthlhogcnfaiphaaPAx2
import Derived.Test.YthlhogcnfaiphaaTO
namespace Go.Proofs.Ythlhogcnfaiphaa.Pure
set_option linter.unusedVariables false
set_option linter.unusedSimpArgs false
open Go.RowKit Go.Proofs.Ythlhogcnfaiphaa.PA Go.Proofs.YthlhogcnfaiphaaW.PrintWords Go.Proofs.YthlhogcnfaiphaaW.PrintLast Go.Proofs.Ythlhogcnfaiphaa.T

theorem sgn_le {x : Int} : sgn x ≤ 0 ↔ x ≤ 0 := by unfold sgn; split <;> (try split) <;> omega
theorem sgn_ge {x : Int} : sgn x ≥ 0 ↔ 0 ≤ x := by unfold sgn; split <;> (try split) <;> omega
theorem ArithGrows : peloruslaw06_ArithGrows.Pure := by
  intro x0 x1 x2 up o0 o1 o2
  have mA := nm_may x0
  have mB := nm_may x1
  have mC := nm_may x2
  refine ⟨11, ?_, fun r h => by rw [awake_ev 11 (by omega)] at h; exact (Option.some.inj h).symm⟩
  unfold peloruslaw06_ArithGrows.f
  rw [awake_ev 11 (by omega), Option.bind_some, if_pos rfl, cmp_ss o0 o1, Option.bind_some]
  by_cases h : kv (nm x0) ≤ kv (nm x1)
  rotate_left
  · have : sgn (kv (nm x0) - kv (nm x1)) > 0 := by
      have := sgn_le (x := kv (nm x0) - kv (nm x1))
      omega
    rw [decide_eq_true this]
    rfl
  have h1 : ¬ sgn (kv (nm x0) - kv (nm x1)) > 0 := by
    have := sgn_le (x := kv (nm x0) - kv (nm x1))
    omega
  rw [decide_eq_false h1]
  have ma := addv_may up mA mC
  have mb := addv_may up mB mC
  have pa := mulv_may up mA mC
  have pb := mulv_may up mB mC
  have s := addv_mono mA mB mC up h
  have s1 : sgn (kv (addv (nm x0) (nm x2) up) - kv (addv (nm x1) (nm x2) up)) ≤ 0 := sgn_le.2 (by omega)
  simp only [peloruslaw06_ArithGrows.j0, Bool.false_eq_true, if_false]
  rw [add_ss 10 (by omega) up o0 o2, Option.bind_some, add_ss 10 (by omega) up o1 o2, Option.bind_some, cmp_g ma mb, Option.bind_some, sgn_s o2, Option.bind_some]
  have kc : kv (nm x2) = sg (nm x2).2.1 (mg (nm x2)) := rfl
  have bc := mg_bd mC
  by_cases hc : sgn (kv (nm x2)) < 0
  · have hn : (nm x2).2.1 = true := by
      cases hn : (nm x2).2.1
      · have := sgn_ge (x := kv (nm x2))
        rw [kc, hn] at this hc
        simp only [sg, Bool.false_eq_true, if_false] at this hc
        omega
      · rfl
    have m := mulv_anti mA mB mC hn up h
    rw [if_pos hc, if_pos s1, mul_ss 10 (by omega) up o0 o2, Option.bind_some, mul_ss 10 (by omega) up o1 o2, Option.bind_some, cmp_g pa pb, Option.bind_some, decide_eq_true (sgn_ge.2 (by omega))]
  · have hn : (nm x2).2.1 = false := by
      cases hn : (nm x2).2.1
      · rfl
      · have := sgn_ge (x := kv (nm x2))
        rw [kc, hn] at this hc
        simp only [sg, if_true] at this hc
        have z : mg (nm x2) = 0 := by omega
        rcases mC with ⟨_, g2, _⟩ | ⟨g1, g2⟩ | ⟨g1, _⟩
        · rw [g2] at hn; exact absurd hn (by decide)
        · have := mg_fin (n := nm x2) (.inr (.inl ⟨g1, g2⟩)) g1; omega
        · rw [mg_inf g1] at z; exact absurd z (by decide)
    have m := mulv_mono mA mB mC hn up h
    rw [if_neg hc, if_pos s1, mul_ss 10 (by omega) up o0 o2, Option.bind_some, mul_ss 10 (by omega) up o1 o2, Option.bind_some, cmp_g pa pb, Option.bind_some, decide_eq_true (sgn_le.2 (by omega))]
end Go.Proofs.Ythlhogcnfaiphaa.Pure
