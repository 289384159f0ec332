import Derived.Test.YtjijikgandkphaaGreatDoorWInv
import Derived.Test.YtjijikgandkphaaGreatDoorWFootNe
namespace Go.Proofs.YtjijikgandkphaaGreatDoorW.PrintWords
open Go.RowKit
end Go.Proofs.YtjijikgandkphaaGreatDoorW.PrintWords
namespace Go.Proofs.YtjijikgandkphaaGreatDoorW.PrintLast
section
variable {ops : Array Oper} {a : Act} {o og : Oper} {g : Nat} {t : Tmp} {u : Bool}
end
end Go.Proofs.YtjijikgandkphaaGreatDoorW.PrintLast
