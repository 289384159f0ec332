import Derived.Test.YtlgndfplikhflaaDoorWInv
import Derived.Test.YtlgndfplikhflaaDoorWFootNe
namespace Go.Proofs.YtlgndfplikhflaaDoorW.PrintWords
open Go.RowKit
end Go.Proofs.YtlgndfplikhflaaDoorW.PrintWords
namespace Go.Proofs.YtlgndfplikhflaaDoorW.PrintLast
section
variable {ops : Array Oper} {a : Act} {o og : Oper} {g : Nat} {t : Tmp} {u : Bool}
end
end Go.Proofs.YtlgndfplikhflaaDoorW.PrintLast
