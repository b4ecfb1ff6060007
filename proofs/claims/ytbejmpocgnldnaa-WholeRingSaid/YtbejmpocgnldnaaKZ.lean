import Derived.Test.YtbejmpocgnldnaaTK
import Derived.Test.YtbejmpocgnldnaaProg
namespace Go.Proofs.Ytbejmpocgnldnaa.PZ
open Go.RowKit Go.Proofs.YtbejmpocgnldnaaW.PrintWords Go.Proofs.Ytbejmpocgnldnaa.TK
set_option linter.unusedVariables false
set_option maxRecDepth 100000
theorem op24 {H : Type} {enc : TypeId × Value → H} {w : World} : DOp enc Try.prog w 24 k24 ok24 :=
  DOp.struct (fun x : S24 => (x.f0, x.f1)) (fun v => ⟨v.1, v.2⟩) (fun _ => rfl) Try.underlying24 (by kernel_rfl) (OpF.cons rfl (by kernel_rfl) (DOp.bool Try.underlying4) (OpF.one rfl (by kernel_rfl) (DOp.slice (B := 4) Try.underlying22 (by kernel_rfl) (by kernel_rfl) (DOp.int Try.underlying47)))) (fun _ h => h)
end Go.Proofs.Ytbejmpocgnldnaa.PZ
