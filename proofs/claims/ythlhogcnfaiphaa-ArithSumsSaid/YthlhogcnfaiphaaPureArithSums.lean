/- The sum and the difference of any two numbers, to either side, are what the document says, and may be. -/
import Derived.Test.YthlhogcnfaiphaaPAx2
import Derived.Test.YthlhogcnfaiphaaTR
namespace Go.Proofs.Ythlhogcnfaiphaa.Pure
set_option linter.unusedVariables false
set_option linter.unusedSimpArgs false
open Go.RowKit Go.Proofs.Ythlhogcnfaiphaa.PA Go.Proofs.YthlhogcnfaiphaaW.PrintWords Go.Proofs.YthlhogcnfaiphaaW.PrintLast Go.Proofs.Ythlhogcnfaiphaa.T

theorem few_eq (a : Int) (b : Bool) (c d : Int) : peloruslaw06_Few.f a b c d = some (decide (a = 1 → -1500 ≤ d ∧ d ≤ 1500)) := by
  unfold peloruslaw06_Few.f
  by_cases h : a = 1
  · rw [if_pos h]
    by_cases h2 : d ≥ -1500
    · rw [if_pos h2]
      congr 1
      rw [decide_eq_decide]
      exact ⟨fun h3 _ => ⟨h2, h3⟩, fun h3 => (h3 h).2⟩
    · rw [if_neg h2]
      congr 1
      exact (decide_eq_false fun h3 => h2 (h3 h).1).symm
  · rw [if_neg h]
    congr 1
    exact (decide_eq_true fun h3 => absurd h3 h).symm
theorem few_nm {x : S24} (h : x.f0 = 1 → -1500 ≤ x.f3 ∧ x.f3 ≤ 1500) : -1500 ≤ (nm x).2.2.2 ∧ (nm x).2.2.2 ≤ 1500 := by
  unfold nm fairv
  by_cases m : mayP (x.f0, x.f1, x.f2, x.f3)
  · rw [if_pos m]
    rcases m with ⟨_, _, _, h4⟩ | ⟨h1, _⟩ | ⟨_, _, h3⟩
    · simp only at h4 ⊢; omega
    · exact h h1
    · simp only at h3 ⊢; omega
  · rw [if_neg m]
    simp only
    omega
theorem ArithSums : peloruslaw06_ArithSums.Pure := by
  intro x0 x1 up o0 o1
  have aw := fun k (hk : 9 ≤ k) => awake_ev k hk
  have out : ∀ k, peloruslaw06_ArithSums.j0 (k + 1) up true true x0.f0 x0.f1 x0.f2 x0.f3 x1.f0 x1.f1 x1.f2 x1.f3 = some true := fun _ => rfl
  by_cases f0 : x0.f0 = 1 → -1500 ≤ x0.f3 ∧ x0.f3 ≤ 1500
  rotate_left
  · refine ⟨9, ?_, fun r h => by rw [aw 9 (by omega)] at h; exact (Option.some.inj h).symm⟩
    unfold peloruslaw06_ArithSums.f
    rw [aw 9 (by omega), Option.bind_some, few_eq, Option.bind_some, few_eq, Option.bind_some, if_pos rfl, decide_eq_false f0]
    exact out 8
  by_cases f1 : x1.f0 = 1 → -1500 ≤ x1.f3 ∧ x1.f3 ≤ 1500
  rotate_left
  · refine ⟨9, ?_, fun r h => by rw [aw 9 (by omega)] at h; exact (Option.some.inj h).symm⟩
    unfold peloruslaw06_ArithSums.f
    rw [aw 9 (by omega), Option.bind_some, few_eq, Option.bind_some, few_eq, Option.bind_some, if_pos rfl, decide_eq_true f0, if_pos rfl, decide_eq_false f1]
    exact out 8
  have w0 := m_lt o0.2.2.1
  have w1 := m_lt o1.2.2.1
  have mA := nm_may x0
  have mB := nm_may x1
  have nB := ngv_may mB
  obtain ⟨K1, h1⟩ := add6_ev x0.f0 x0.f1 x0.f2 x0.f3 x1.f0 x1.f1 x1.f2 x1.f3 up w0 w1 (few_nm f0) (few_nm f1)
  have fn : -1500 ≤ (ngv (nm x1)).2.2.2 ∧ (ngv (nm x1)).2.2.2 ≤ 1500 := by
    have := few_nm f1
    unfold ngv
    split
    · simp only; omega
    · exact this
  obtain ⟨K2, h2⟩ := add6_ev x0.f0 x0.f1 x0.f2 x0.f3 (ngv (nm x1)).1 (ngv (nm x1)).2.1 (ngv (nm x1)).2.2.1 (ngv (nm x1)).2.2.2 up w0 (may_lt nB) (few_nm f0) (by rw [tup, fairv_of nB]; exact fn)
  have e0 : fairv (x0.f0, x0.f1, x0.f2, x0.f3) = nm x0 := rfl
  have e1 : fairv (x1.f0, x1.f1, x1.f2, x1.f3) = nm x1 := rfl
  rw [tup, fairv_of nB, e0] at h2
  rw [e0, e1] at h1
  refine ⟨K1 + K2 + 10, ?_, fun r h => by rw [aw _ (by omega)] at h; exact (Option.some.inj h).symm⟩
  unfold peloruslaw06_ArithSums.f
  rw [aw _ (by omega), Option.bind_some, few_eq, Option.bind_some, few_eq, Option.bind_some, if_pos rfl, decide_eq_true f0, if_pos rfl, decide_eq_true f1]
  simp only [peloruslaw06_ArithSums.j0, Bool.not_true, Bool.false_eq_true, if_false]
  rw [add_ss _ (by omega) up o0 o1, Option.bind_some, h1 _ (by omega), Option.bind_some]
  rw [if_pos (nm_beq rfl), sub_ss _ (by omega) up o0 o1, Option.bind_some]
  unfold pelorusref06_Sub.f
  rw [neg5_eq _ _ _ _ w1, Option.bind_some, e1, h2 _ (by omega), Option.bind_some, Option.bind_some, if_pos (nm_beq rfl)]
  have ma := addv_may up mA mB
  rw [may_eq _ _ _ _ (may_lt ma), Option.bind_some, tup, decide_eq_true ma]
end Go.Proofs.Ythlhogcnfaiphaa.Pure
