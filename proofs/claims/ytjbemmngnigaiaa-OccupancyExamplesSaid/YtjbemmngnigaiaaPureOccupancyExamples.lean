/- The pure side of OccupancyExamples: the example's values, run. No condition. -/
import Derived.Test.YtjbemmngnigaiaaPAllxf3
import Derived.Lib.RowBridge
namespace Go.Proofs.Ytjbemmngnigaiaa.Pure
set_option linter.unusedVariables false
set_option linter.unusedSimpArgs false
open Go.RowKit Go.Proofs.Ytjbemmngnigaiaa.PAll Go.Proofs.YtjbemmngnigaiaaW.PrintWords Go.Proofs.YtjbemmngnigaiaaW.PrintLast
theorem ex_at : occupancy_At.f 10 [⟨0, 0, 0, 4, 0⟩, ⟨0, 1, 13, 3, 0⟩] 0 23 = some [0, 1] := by
  unfold occupancy_At.f
  rw [show occupancy_Valid.f 10 [⟨0, 0, 0, 4, 0⟩, ⟨0, 1, 13, 3, 0⟩] = some true from by kernel_rfl, Option.bind_some, if_pos rfl]
  rw [show atIn 10 [⟨0, 0, 0, 4, 0⟩, ⟨0, 1, 13, 3, 0⟩] 0 23 ([⟨0, 0, 0, 4, 0⟩, ⟨0, 1, 13, 3, 0⟩] : List S23).length 0 [] = some [0, 1] from by kernel_rfl, Option.bind_some]
  rw [List.mergeSort_of_pairwise (by simp)]
  kernel_rfl
theorem OccupancyExamples : railplanlaw19_OccupancyExamples.Pure :=
  ⟨60, by kernel_rfl, by kernel_rfl, ex_at, by kernel_rfl, by kernel_rfl⟩
end Go.Proofs.Ytjbemmngnigaiaa.Pure
