import Derived.Test.YtgbnfjhmobeloaaWInv
import Derived.Test.YtgbnfjhmobeloaaWFootNe
namespace Go.Proofs.YtgbnfjhmobeloaaW.PrintWords
open Go.RowKit
end Go.Proofs.YtgbnfjhmobeloaaW.PrintWords
namespace Go.Proofs.YtgbnfjhmobeloaaW.PrintLast
section
variable {ops : Array Oper} {a : Act} {o og : Oper} {g : Nat} {t : Tmp} {u : Bool}
end
end Go.Proofs.YtgbnfjhmobeloaaW.PrintLast
