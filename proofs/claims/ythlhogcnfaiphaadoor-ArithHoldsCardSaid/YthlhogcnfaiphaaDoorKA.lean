import Derived.Test.YthlhogcnfaiphaaDoorTK
import Derived.Test.YthlhogcnfaiphaaDoorProg
namespace Go.Proofs.YthlhogcnfaiphaaDoor.PA
open Go.RowKit Go.Proofs.YthlhogcnfaiphaaDoorW.PrintWords Go.Proofs.YthlhogcnfaiphaaDoor.TK
set_option linter.unusedVariables false
set_option maxRecDepth 100000
theorem op24 {H : Type} {enc : TypeId × Value → H} {w : World} : DOp enc Tryd.prog w 24 k24 ok24 :=
  DOp.struct (fun x : S24 => (x.f0, x.f1, x.f2, x.f3)) (fun v => ⟨v.1, v.2.1, v.2.2.1, v.2.2.2⟩) (fun _ => rfl) Tryd.underlying24 (by kernel_rfl) (OpF.cons rfl (by kernel_rfl) (DOp.int Tryd.underlying3) (OpF.cons rfl (by kernel_rfl) (DOp.bool Tryd.underlying4) (OpF.cons rfl (by kernel_rfl) (DOp.int Tryd.underlying22) (OpF.one rfl (by kernel_rfl) (DOp.int Tryd.underlying3))))) (fun _ h => h)
end Go.Proofs.YthlhogcnfaiphaaDoor.PA
