/- Words of this work beside the print's own: calls through function values. -/
import Derived.Test.YtlgndfplikhflaaDoorWMore
import Derived.Lib.OthersKept
import Derived.Lib.RuneBytes
import Derived.Lib.SliceRun
set_option linter.unusedVariables false
set_option linter.unusedSimpArgs false
namespace Go.Proofs.YtlgndfplikhflaaDoorW.VWords
open Go Go.RowKit Go.Proofs.YtlgndfplikhflaaDoorW.PrintWords Go.Proofs.YtlgndfplikhflaaDoorW.PrintLast Go.Proofs.YtlgndfplikhflaaDoorW.PrintMore
section
variable {P : Program} {ops : Array Oper} {rest : List Oper} {o : Oper} {a : Act} {W : World} {Q : Exit → Act → World → Prop}
end
/-! ### a string's iterator beside rows of the call's own -/
section
variable {w w1 : World} {k : Nat} {s : ByteArray} {p : Nat}
end
end Go.Proofs.YtlgndfplikhflaaDoorW.VWords
