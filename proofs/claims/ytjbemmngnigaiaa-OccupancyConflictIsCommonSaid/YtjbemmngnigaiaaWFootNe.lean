/- Words on memory, rows and kinds: what the parts of this claim use of the print's words. No condition but those stated. -/
import Derived.Test.YtjbemmngnigaiaaWN
namespace Go.Proofs.YtjbemmngnigaiaaW.PrintWords
open Go.RowKit
namespace Kd
section
variable {α : Type} {d : Kd α} {W : World} {g n : Nat} {S ok : Nat → Prop} {A : Option Addr} {ad : Addr} {xs : List α}
end
end Kd
end Go.Proofs.YtjbemmngnigaiaaW.PrintWords
