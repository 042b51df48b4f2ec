/- Words on memory, rows and kinds: what the parts of this claim use of the print's words. No condition but those stated. -/
import Derived.Test.YtjbemmngnigaiaaWTab
namespace Go.Proofs.YtjbemmngnigaiaaW.PrintLast
section
variable {P : Program} {ops : Array Oper} {Q : Exit → Act → World → Prop} {md : Region.Mode} {S : World → Prop} {ds : List Nat} {T : Bool × List (List Nat × List Nat)}
end
end Go.Proofs.YtjbemmngnigaiaaW.PrintLast
