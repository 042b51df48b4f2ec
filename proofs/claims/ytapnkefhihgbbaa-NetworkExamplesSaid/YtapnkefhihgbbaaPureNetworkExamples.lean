/- What is left of NetworkExamples behind its walk: nothing (the walk knows each value). No condition. -/
import Derived.Test.YtapnkefhihgbbaaPAllxf6
namespace Go.Proofs.Ytapnkefhihgbbaa.Pure
open Go.RowKit Go.Proofs.Ytapnkefhihgbbaa.PAll Go.Proofs.YtapnkefhihgbbaaW.PrintWords Go.Proofs.YtapnkefhihgbbaaW.PrintLast

theorem NetworkExamples : railplanlaw11_NetworkExamples.Pure := trivial

end Go.Proofs.Ytapnkefhihgbbaa.Pure
