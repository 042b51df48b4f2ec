/- The pure side of PlatformRaw: both calls of agrees answer true for every period, list of visits, choice and budget. No condition. -/
import Derived.Test.YtdgdjbehddeepaaPlatD
import Derived.Test.YtdgdjbehddeepaaPAllxf9
namespace Go.Proofs.Ytdgdjbehddeepaa.Pure
open Go.RowKit Go.Proofs.Ytdgdjbehddeepaa.PAll Go.Proofs.YtdgdjbehddeepaaW.PrintWords Go.Proofs.YtdgdjbehddeepaaW.PrintLast
theorem PlatformRaw (a0 : Int) (x1 : List SV) (x2 x3 : SV) (x4 : List Int) (a5 : Int) {P0 P1 P2 P3 P4 P5 P6 : Prop} (_ : P0) (_ : P1) (_ : P2) (_ : P3) (_ : P4) (_ : P5) (_ : P6) : ∃ k, railplanlaw20_PlatformRaw.f k a0 x1 x2.f0 x2.f1 x2.f2 x3.f0 x3.f1 x3.f2 x4 a5 = some true := by
  apply Ev.rounds
  unfold railplanlaw20_PlatformRaw.f
  obtain ⟨p, hp, hp0, hp1⟩ := pick_f a5 200 (by omega) (by omega)
  refine Ev.bind awake_ev ?_
  refine Ev.congr (fun k => by rw [if_pos rfl]) ?_
  refine Ev.bind (Overlap_ev a0 x2 x3) ?_
  refine Ev.bind (rOverlap_ev a0 x2 x3) ?_
  refine Ev.congr (fun k => by rw [if_pos (by simp), hp, Option.bind_some]) ?_
  refine Ev.bind (agrees_ev a0 x1 x4 _) ?_
  refine Ev.congr (fun k => by rw [if_pos rfl, show railplanlaw20_two.f = some [(⟨8, 4, [1, 2]⟩ : SV), ⟨0, 3, [1]⟩] from rfl, Option.bind_some]) ?_
  exact Ev.bind (agrees_ev 10 _ x4 a5) (Ev.now _)
end Go.Proofs.Ytdgdjbehddeepaa.Pure
