import Derived.Test.YthlhogcnfaiphaaVInv
import Derived.Test.YthlhogcnfaiphaaVFootNe
namespace Go.Proofs.YthlhogcnfaiphaaW.PrintWords
open Go.RowKit
end Go.Proofs.YthlhogcnfaiphaaW.PrintWords
namespace Go.Proofs.YthlhogcnfaiphaaW.PrintLast
section
variable {ops : Array Oper} {a : Act} {o og : Oper} {g : Nat} {t : Tmp} {u : Bool}
end
end Go.Proofs.YthlhogcnfaiphaaW.PrintLast
