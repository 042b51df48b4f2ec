/- The pure side of NetworkRaw: both calls of agrees answer true, for every network, list of times, index and event. No condition. -/
import Derived.Test.YtapnkefhihgbbaaPAllxf7
namespace Go.Proofs.Ytapnkefhihgbbaa.Pure
open Go.RowKit Go.Proofs.Ytapnkefhihgbbaa.PAll Go.Proofs.YtapnkefhihgbbaaW.PrintWords Go.Proofs.YtapnkefhihgbbaaW.PrintLast

theorem NetworkRaw (n : S26) (t : List Int) (a : Int) (e : S46) {P1 P2 P3 P4 P5 : Prop} (_ : P1) (_ : P2) (_ : P3) (_ : P4) (_ : P5) : railplanlaw11_NetworkRaw.f n.f0 n.f1 n.f2 t a e.f0 e.f1 e.f2 = some true := by
  unfold railplanlaw11_NetworkRaw.f railplanlaw11_agrees.f railplanlaw11_small.f
  rw [show railplanlaw11_awake.f = some true from by kernel_rfl]; rfl

end Go.Proofs.Ytapnkefhihgbbaa.Pure
