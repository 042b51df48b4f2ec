/- The pure side of NetworkMutations: Check answers as its reference on every network; generated networks and choices are in range. No condition. -/
import Derived.Test.YtapnkefhihgbbaaPAllxf3
import Derived.Test.YtapnkefhihgbbaaNetB
namespace Go.Proofs.Ytapnkefhihgbbaa.Pure
open Go.RowKit Go.Proofs.Ytapnkefhihgbbaa.PAll Go.Proofs.YtapnkefhihgbbaaW.PrintWords Go.Proofs.YtapnkefhihgbbaaW.PrintLast

theorem NetworkMutations : railplanlaw11_NetworkMutations.Pure where
  net := fun l hl => by
    obtain ⟨p, ev, ac, h, ok⟩ := net_ok l hl
    exact ⟨60, p, ev, ac, h 60 (Nat.le_refl _), ok.a2, ok.e1⟩
  chk := fun p ev ac => check_eq p ev ac 600 (Nat.le_refl _)
  awake := awake_ok
  pick := pick_ev

end Go.Proofs.Ytapnkefhihgbbaa.Pure
