/- Words on memory, rows and kinds: what the parts of this claim use of the print's words. No condition but those stated. -/
import Derived.Test.YtjbemmngnigaiaaWWords
import Derived.Laws.StructEq
namespace Go.Proofs.YtjbemmngnigaiaaW.PrintWords
open Go.RowKit
section
variable {P : Program} {d : Nat} {xs ys : Array Value} {f : Field} {fs : List Field} {a b : Value} {r s : Bool} {w : World}
end
end Go.Proofs.YtjbemmngnigaiaaW.PrintWords
