import Derived.Test.YtjijikgandkphaaDoorWInv
import Derived.Test.YtjijikgandkphaaDoorWFootNe
namespace Go.Proofs.YtjijikgandkphaaDoorW.PrintWords
open Go.RowKit
end Go.Proofs.YtjijikgandkphaaDoorW.PrintWords
namespace Go.Proofs.YtjijikgandkphaaDoorW.PrintLast
section
variable {ops : Array Oper} {a : Act} {o og : Oper} {g : Nat} {t : Tmp} {u : Bool}
end
end Go.Proofs.YtjijikgandkphaaDoorW.PrintLast
