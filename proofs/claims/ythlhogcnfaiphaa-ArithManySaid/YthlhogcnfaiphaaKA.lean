import Derived.Test.YthlhogcnfaiphaaTK
import Derived.Test.YthlhogcnfaiphaaProg
namespace Go.Proofs.Ythlhogcnfaiphaa.PA
open Go.RowKit Go.Proofs.YthlhogcnfaiphaaW.PrintWords Go.Proofs.Ythlhogcnfaiphaa.TK
set_option linter.unusedVariables false
set_option maxRecDepth 100000
theorem op24 {H : Type} {enc : TypeId × Value → H} {w : World} : DOp enc Try.prog w 24 k24 ok24 :=
  DOp.struct (fun x : S24 => (x.f0, x.f1, x.f2, x.f3)) (fun v => ⟨v.1, v.2.1, v.2.2.1, v.2.2.2⟩) (fun _ => rfl) Try.underlying24 (by kernel_rfl) (OpF.cons rfl (by kernel_rfl) (DOp.int Try.underlying3) (OpF.cons rfl (by kernel_rfl) (DOp.bool Try.underlying4) (OpF.cons rfl (by kernel_rfl) (DOp.int Try.underlying22) (OpF.one rfl (by kernel_rfl) (DOp.int Try.underlying3))))) (fun _ h => h)
end Go.Proofs.Ythlhogcnfaiphaa.PA
