import Derived.Test.YtaookeneeemfbaaDoorTK
import Derived.Test.YtaookeneeemfbaaDoorProg
namespace Go.Proofs.YtaookeneeemfbaaDoor.PA
open Go.RowKit Go.Proofs.YtaookeneeemfbaaDoorW.PrintWords Go.Proofs.YtaookeneeemfbaaDoor.TK
set_option linter.unusedVariables false
set_option maxRecDepth 100000
theorem op24 {H : Type} {enc : TypeId × Value → H} {w : World} : DOp enc Tryd.prog w 24 k24 ok24 :=
  DOp.struct (fun x : S24 => (x.f0, x.f1)) (fun v => ⟨v.1, v.2⟩) (fun _ => rfl) Tryd.underlying24 (by kernel_rfl) (OpF.cons rfl (by kernel_rfl) (DOp.bool Tryd.underlying4) (OpF.one rfl (by kernel_rfl) (DOp.slice (B := 4) Tryd.underlying22 (by kernel_rfl) (by kernel_rfl) (DOp.int Tryd.underlying51)))) (fun _ h => h)
theorem op27 {H : Type} {enc : TypeId × Value → H} {w : World} : DOp enc Tryd.prog w 27 k27 ok27 :=
  DOp.struct (fun x : S27 => (x.f0, x.f1)) (fun v => ⟨v.1, v.2⟩) (fun _ => rfl) Tryd.underlying27 (by kernel_rfl) (OpF.cons rfl (by kernel_rfl) op24 (OpF.one rfl (by kernel_rfl) (DOp.int Tryd.underlying3))) (fun _ h => h)
end Go.Proofs.YtaookeneeemfbaaDoor.PA
