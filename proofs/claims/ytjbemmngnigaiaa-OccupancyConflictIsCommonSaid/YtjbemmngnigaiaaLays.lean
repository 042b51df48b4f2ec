/- The contracts of the library's functions (the kit's shelf), laid at this program. -/
import Derived.Test.YtjbemmngnigaiaaProg
import Derived.Shelf.SlicesQ.IndexFunc
import Derived.Ground.SlgfProg
import Derived.Ground.NamesProg
import Derived.Ground.Names2Prog
import Derived.Shelf.SlGeneric
import Derived.Shelf.Lay
import Derived.Shelf.Sort.Plain
import Derived.Shelf.Slices.In.SortNone
import Derived.Shelf.Slices.CompactI
import Derived.Shelf.Slices.Cells
import Derived.Shelf.Slices.Empties
import Derived.Lib.SliceRun
import Derived.Lib.SortBridge
namespace Go.Proofs
open Go.Shelf
shelf_lay_g SlLaysH0.n8 Slgf 8 at Try 28 as Try.l28
shelf_lay Lays.n189 Nm 189 at Try as Try.laysSort
shelf_lay Lays2.n20 Nm2 20 at Try as Try.lays20
end Go.Proofs
