/- Words on memory, rows and kinds: what the parts of this claim use of the print's words. No condition but those stated. -/
import Derived.Test.YtjbemmngnigaiaaWInv
import Derived.Test.YtjbemmngnigaiaaWFootNe
namespace Go.Proofs.YtjbemmngnigaiaaW.PrintWords
open Go.RowKit
end Go.Proofs.YtjbemmngnigaiaaW.PrintWords
namespace Go.Proofs.YtjbemmngnigaiaaW.PrintLast
section
variable {ops : Array Oper} {a : Act} {o og : Oper} {g : Nat} {t : Tmp} {u : Bool}
end
end Go.Proofs.YtjbemmngnigaiaaW.PrintLast
