import Derived.Test.YthlhogcnfaiphaaDoorVInv
import Derived.Test.YthlhogcnfaiphaaDoorVFootNe
namespace Go.Proofs.YthlhogcnfaiphaaDoorW.PrintWords
open Go.RowKit
end Go.Proofs.YthlhogcnfaiphaaDoorW.PrintWords
namespace Go.Proofs.YthlhogcnfaiphaaDoorW.PrintLast
section
variable {ops : Array Oper} {a : Act} {o og : Oper} {g : Nat} {t : Tmp} {u : Bool}
end
end Go.Proofs.YthlhogcnfaiphaaDoorW.PrintLast
