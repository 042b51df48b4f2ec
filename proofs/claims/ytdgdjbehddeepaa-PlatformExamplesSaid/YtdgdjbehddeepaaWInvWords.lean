/- Words on memory, rows and kinds: what the parts of this claim use of the print's words. No condition but those stated. -/
import Derived.Test.YtdgdjbehddeepaaWInv
import Derived.Test.YtdgdjbehddeepaaWFootNe
namespace Go.Proofs.YtdgdjbehddeepaaW.PrintWords
open Go.RowKit
end Go.Proofs.YtdgdjbehddeepaaW.PrintWords
namespace Go.Proofs.YtdgdjbehddeepaaW.PrintLast
section
variable {ops : Array Oper} {a : Act} {o og : Oper} {g : Nat} {t : Tmp} {u : Bool}
end
end Go.Proofs.YtdgdjbehddeepaaW.PrintLast
