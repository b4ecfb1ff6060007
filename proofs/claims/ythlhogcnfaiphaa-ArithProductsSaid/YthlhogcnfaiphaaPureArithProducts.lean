/- The product of any two numbers, to either side, half of one, and twice as much, are what the document says. -/
import Derived.Test.YthlhogcnfaiphaaPAx2
import Derived.Test.YthlhogcnfaiphaaTX
namespace Go.Proofs.Ythlhogcnfaiphaa.Pure
set_option linter.unusedVariables false
set_option linter.unusedSimpArgs false
open Go.RowKit Go.Proofs.Ythlhogcnfaiphaa.PA Go.Proofs.YthlhogcnfaiphaaW.PrintWords Go.Proofs.YthlhogcnfaiphaaW.PrintLast Go.Proofs.Ythlhogcnfaiphaa.T

theorem ArithProducts : peloruslaw06_ArithProducts.Pure := by
  intro x0 x1 up o0 o1
  have w0 := m_lt o0.2.2.1
  have w1 := m_lt o1.2.2.1
  have mA := nm_may x0
  have mB := nm_may x1
  have e0 : fairv (x0.f0, x0.f1, x0.f2, x0.f3) = nm x0 := rfl
  have e1 : fairv (x1.f0, x1.f1, x1.f2, x1.f3) = nm x1 := rfl
  obtain ⟨K1, h1⟩ := mul6_ev x0.f0 x0.f1 x0.f2 x0.f3 x1.f0 x1.f1 x1.f2 x1.f3 up w0 w1
  obtain ⟨K2, h2⟩ := mul6_ev x0.f0 x0.f1 x0.f2 x0.f3 1 false 9223372036854775808 (-64) up w0 (by decide)
  have hm : fairv (1, false, 9223372036854775808, -64) = halfn := fairv_of halfn_may
  have tm : mayP (ofv 2) := by decide +kernel
  obtain ⟨K3, h3⟩ := mul6_ev x0.f0 x0.f1 x0.f2 x0.f3 (ofv 2).1 (ofv 2).2.1 (ofv 2).2.2.1 (ofv 2).2.2.2 up w0 (may_lt tm)
  obtain ⟨K4, h4⟩ := of2_ev
  rw [e0, e1] at h1
  rw [e0, hm] at h2
  rw [e0, tup, fairv_of tm] at h3
  refine ⟨K1 + K2 + K3 + K4 + 10, ?_, fun r h => by rw [awake_ev _ (by omega)] at h; exact (Option.some.inj h).symm⟩
  unfold peloruslaw06_ArithProducts.f
  have ma := mulv_may up mA mB
  rw [awake_ev _ (by omega), Option.bind_some, mul_ss _ (by omega) up o0 o1, Option.bind_some, if_pos rfl, h1 _ (by omega), Option.bind_some, if_pos (nm_beq rfl), may_eq _ _ _ _ (may_lt ma), Option.bind_some, tup, decide_eq_true ma, if_pos rfl, half_s _ (by omega) up o0, Option.bind_some]
  unfold pelorusref06_Half.f pelorusref06_Twice.f
  rw [h2 _ (by omega), Option.bind_some, Option.bind_some, if_pos (nm_beq rfl), twice_s _ (by omega) up o0, Option.bind_some, h4 _ (by omega), Option.bind_some, h3 _ (by omega), Option.bind_some, Option.bind_some, nm_beq rfl]
end Go.Proofs.Ythlhogcnfaiphaa.Pure
