import Derived.Test.YtkemnoejpbknhaaDoorTK
import Derived.Test.YtkemnoejpbknhaaDoorProg
namespace Go.Proofs.YtkemnoejpbknhaaDoor.PA
open Go.RowKit Go.Proofs.YtkemnoejpbknhaaDoorW.PrintWords Go.Proofs.YtkemnoejpbknhaaDoor.TK
set_option linter.unusedVariables false
set_option maxRecDepth 100000
theorem op24 {H : Type} {enc : TypeId × Value → H} {w : World} : DOp enc Tryd.prog w 24 k24 ok24 :=
  DOp.struct (fun x : S24 => (x.f0, x.f1)) (fun v => ⟨v.1, v.2⟩) (fun _ => rfl) Tryd.underlying24 (by kernel_rfl) (OpF.cons rfl (by kernel_rfl) (DOp.bool Tryd.underlying4) (OpF.one rfl (by kernel_rfl) (DOp.slice (B := 4) Tryd.underlying22 (by kernel_rfl) (by kernel_rfl) (DOp.int Tryd.underlying53)))) (fun _ h => h)
theorem op26 {H : Type} {enc : TypeId × Value → H} {w : World} : DOp enc Tryd.prog w 26 k26 ok26 :=
  DOp.struct (fun x : S26 => (x.f0, x.f1)) (fun v => ⟨v.1, v.2⟩) (fun _ => rfl) Tryd.underlying26 (by kernel_rfl) (OpF.cons rfl (by kernel_rfl) op24 (OpF.one rfl (by kernel_rfl) (DOp.int Tryd.underlying3))) (fun _ h => h)
theorem op30 {H : Type} {enc : TypeId × Value → H} {w : World} : DOp enc Tryd.prog w 30 k30 ok30 :=
  DOp.struct (fun x : S30 => (x.f0, x.f1, x.f2, x.f3)) (fun v => ⟨v.1, v.2.1, v.2.2.1, v.2.2.2⟩) (fun _ => rfl) Tryd.underlying30 (by kernel_rfl) (OpF.cons rfl (by kernel_rfl) (DOp.int Tryd.underlying3) (OpF.cons rfl (by kernel_rfl) (DOp.bool Tryd.underlying4) (OpF.cons rfl (by kernel_rfl) (DOp.int Tryd.underlying28) (OpF.one rfl (by kernel_rfl) (DOp.int Tryd.underlying3))))) (fun _ h => h)
end Go.Proofs.YtkemnoejpbknhaaDoor.PA
