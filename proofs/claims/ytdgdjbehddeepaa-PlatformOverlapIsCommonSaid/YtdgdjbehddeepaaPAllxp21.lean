/- What calls of the Go functions below do, each under the premises that its theorem states. Laid by a program of the claimant, which drives the kit's print; some texts are written by hand. -/
import Derived.Test.YtdgdjbehddeepaaPAllx0
namespace Go.Proofs.Ytdgdjbehddeepaa.PAll
open Go.RowKit Go.Proofs.YtdgdjbehddeepaaW.PrintWords Go.Proofs.YtdgdjbehddeepaaW.PrintLast Go.Proofs.YtdgdjbehddeepaaW.PrintMore
attribute [local go_sem] max2_int min2_int max_two min_two max_three min_three max_four min_four   -- for this text's walks alone
set_option linter.unusedVariables false
set_option linter.unusedSimpArgs false

theorem V_ints {W : World} {A : Option Addr} {c base : Nat} {l : List Int} (h : Kd.C (Kd.int .i64) W A l.length l) (hl : l.length ≤ c) : Kd.V (Kd.int .i64) 3 W base (fun _ => True) (.slice A l.length c) l :=
  Kd.V_mk hl (fun W' hm => (Kd.heap_int .i64).C (fun k hk => hm k trivial hk) h)
theorem cell_b {w W : World} (hb : Below w.heap.size w W) {a : Addr} {v : Value} (h : w.cell? a = some v) : W.cell? a = some v := (hb.cell (World.block_lt_of_cell? w _ h)).trans h

end Go.Proofs.Ytdgdjbehddeepaa.PAll
