/- Words on memory, rows and kinds: what the parts of this claim use of the print's words. No condition but those stated. -/
import Derived.Test.YtdgdjbehddeepaaWWords
import Derived.Laws.StructEq
namespace Go.Proofs.YtdgdjbehddeepaaW.PrintWords
open Go.RowKit
section
variable {P : Program} {d : Nat} {xs ys : Array Value} {f : Field} {fs : List Field} {a b : Value} {r s : Bool} {w : World}
end
end Go.Proofs.YtdgdjbehddeepaaW.PrintWords
