import Derived.Test.YtkemnoejpbknhaaDoorVInv
import Derived.Test.YtkemnoejpbknhaaDoorVFootNe
namespace Go.Proofs.YtkemnoejpbknhaaDoorW.PrintWords
open Go.RowKit
end Go.Proofs.YtkemnoejpbknhaaDoorW.PrintWords
namespace Go.Proofs.YtkemnoejpbknhaaDoorW.PrintLast
section
variable {ops : Array Oper} {a : Act} {o og : Oper} {g : Nat} {t : Tmp} {u : Bool}
end
end Go.Proofs.YtkemnoejpbknhaaDoorW.PrintLast
