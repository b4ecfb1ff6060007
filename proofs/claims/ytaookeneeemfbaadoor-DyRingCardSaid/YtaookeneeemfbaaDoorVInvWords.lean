import Derived.Test.YtaookeneeemfbaaDoorVInv
import Derived.Test.YtaookeneeemfbaaDoorVFootNe
namespace Go.Proofs.YtaookeneeemfbaaDoorW.PrintWords
open Go.RowKit
end Go.Proofs.YtaookeneeemfbaaDoorW.PrintWords
namespace Go.Proofs.YtaookeneeemfbaaDoorW.PrintLast
section
variable {ops : Array Oper} {a : Act} {o og : Oper} {g : Nat} {t : Tmp} {u : Bool}
end
end Go.Proofs.YtaookeneeemfbaaDoorW.PrintLast
