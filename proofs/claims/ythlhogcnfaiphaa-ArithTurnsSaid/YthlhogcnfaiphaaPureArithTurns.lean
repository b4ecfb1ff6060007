/- A sum to above is the opposite of the opposites' sum to below; so is a product; the order of two plays no part. -/
import Derived.Test.YthlhogcnfaiphaaPAx2
import Derived.Test.YthlhogcnfaiphaaTF
namespace Go.Proofs.Ythlhogcnfaiphaa.Pure
set_option linter.unusedVariables false
set_option linter.unusedSimpArgs false
open Go.RowKit Go.Proofs.Ythlhogcnfaiphaa.PA Go.Proofs.YthlhogcnfaiphaaW.PrintWords Go.Proofs.YthlhogcnfaiphaaW.PrintLast Go.Proofs.Ythlhogcnfaiphaa.T

theorem ArithTurns : peloruslaw06_ArithTurns.Pure := by
  intro x0 x1 up o0 o1
  have mA := nm_may x0
  have mB := nm_may x1
  have n0 := ngv_may mA
  have n1 := ngv_may mB
  refine ⟨9, ?_, fun r h => by rw [awake_ev 9 (by omega)] at h; exact (Option.some.inj h).symm⟩
  unfold peloruslaw06_ArithTurns.f
  simp only [awake_ev 9 (by omega), Option.bind_some, neg_s o0, neg_s o1, add_g 9 (by omega) _ _ _ n0 n1, mul_ns 9 (by omega) _ n0 o1, add_ss 9 (by omega) _ o0 o1, add_ss 9 (by omega) _ o1 o0, mul_ss 9 (by omega) _ o0 o1, mul_ss 9 (by omega) _ o1 o0, if_true]
  have e1 : addv (nm x0) (nm x1) up = ngv (addv (ngv (nm x0)) (ngv (nm x1)) (!up)) := by
    rw [addv_neg _ _ _ n0 n1, ngv_ngv mA, ngv_ngv mB, Bool.not_not]
  have e2 : mulv (nm x0) (nm x1) up = ngv (mulv (ngv (nm x0)) (nm x1) (!up)) := by
    rw [mulv_neg _ _ _ n0 mB, ngv_ngv mA, Bool.not_not]
  rw [neg_g _ (addv_may _ n0 n1), Option.bind_some, if_pos (nm_beq e1), neg_g _ (mulv_may _ n0 mB), Option.bind_some, if_pos (nm_beq e2), if_pos (nm_beq (addv_comm _ _ up mA mB)), nm_beq (mulv_comm (nm x0) (nm x1) up)]
end Go.Proofs.Ythlhogcnfaiphaa.Pure
