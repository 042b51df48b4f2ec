/- The pure side of PlatformExamples: the example's values, run. No condition. -/
import Derived.Test.YtdgdjbehddeepaaPAllxf6
namespace Go.Proofs.Ytdgdjbehddeepaa.Pure
set_option linter.unusedVariables false
set_option linter.unusedSimpArgs false
open Go.RowKit Go.Proofs.Ytdgdjbehddeepaa.PAll Go.Proofs.YtdgdjbehddeepaaW.PrintWords Go.Proofs.YtdgdjbehddeepaaW.PrintLast
theorem PlatformExamples : railplanlaw20_PlatformExamples.Pure :=
  ⟨60, ⟨8, 4, [1, 2]⟩, ⟨0, 3, [1]⟩, [2, 1], by kernel_rfl, by kernel_rfl, by kernel_rfl, by kernel_rfl, by kernel_rfl⟩
end Go.Proofs.Ytdgdjbehddeepaa.Pure
