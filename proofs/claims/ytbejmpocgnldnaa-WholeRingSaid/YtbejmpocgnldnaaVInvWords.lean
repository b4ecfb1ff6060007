import Derived.Test.YtbejmpocgnldnaaVInv
import Derived.Test.YtbejmpocgnldnaaVFootNe
namespace Go.Proofs.YtbejmpocgnldnaaW.PrintWords
open Go.RowKit
end Go.Proofs.YtbejmpocgnldnaaW.PrintWords
namespace Go.Proofs.YtbejmpocgnldnaaW.PrintLast
section
variable {ops : Array Oper} {a : Act} {o og : Oper} {g : Nat} {t : Tmp} {u : Bool}
end
end Go.Proofs.YtbejmpocgnldnaaW.PrintLast
