/- The pure side of PlatformOverlapIsCommon: what the walk asks of generated visits: their residues, and Overlap of the first two. No condition. -/
import Derived.Test.YtdgdjbehddeepaaPlatF
import Derived.Test.YtdgdjbehddeepaaPAllxf3
namespace Go.Proofs.Ytdgdjbehddeepaa.Pure
set_option linter.unusedVariables false
set_option linter.unusedSimpArgs false
open Go.RowKit Go.Proofs.Ytdgdjbehddeepaa.PAll Go.Proofs.YtdgdjbehddeepaaW.PrintWords Go.Proofs.YtdgdjbehddeepaaW.PrintLast
theorem PlatformOverlapIsCommon : railplanlaw20_PlatformOverlapIsCommon.Pure := by
  intro a0 l1 h1
  obtain ⟨p, hp, hp0, hp1⟩ := pick_f a0 30 (by omega) (by omega)
  obtain ⟨v, hv, hv7, hok⟩ := visits_ev (2 + p) (by omega) (by omega) l1 (by omega)
  obtain ⟨Ka, ha⟩ := awake_ev
  obtain ⟨Kv, hv⟩ := hv
  obtain ⟨K0, h0⟩ := Overlap_ev (2 + p) (rd_T28 v 0) (rd_T28 v 1)
  obtain ⟨K1, h1'⟩ := Overlap_ev (2 + p) (rd_T28 v 1) (rd_T28 v 0)
  refine ⟨Ka + Kv + K0 + K1, p, v, hp, hp0, hp1, hv _ (by omega), ha _ (by omega), fun h2 => ?_⟩
  have g0 : okG (2 + p) (rd_T28 v 0) := hok _ (mem_rd v 0 (by omega))
  have g1 : okG (2 + p) (rd_T28 v 1) := hok _ (mem_rd v 1 (by omega))
  obtain ⟨x, hx⟩ : ∃ x, x = rd_T28 v 0 := ⟨_, rfl⟩
  obtain ⟨y, hy⟩ : ∃ y, y = rd_T28 v 1 := ⟨_, rfl⟩
  rw [← hx] at g0 h0 h1' ⊢
  rw [← hy] at g1 h0 h1' ⊢
  have x0 := g0.1
  have y0 := g1.1
  refine ⟨fun s => ((s : Int) - x.f0) % (2 + p), fun s => ((s : Int) - y.f0) % (2 + p), cmn (2 + p) x y, rfl, fun s hs => ⟨?_, ?_, cmn_succ _ _ _ _⟩, ?_, ?_⟩
  · rw [w64 _ (by omega) (by omega)]; exact rmod _ _ (by omega) (by omega) (by omega) (by omega)
  · rw [w64 _ (by omega) (by omega)]; exact rmod _ _ (by omega) (by omega) (by omega) (by omega)
  · refine (h0 _ (by omega)).trans ?_
    rw [OvB_ok _ (by omega) (by omega) x y g0 g1, cmn_eq _ (by omega) x y g0 g1]
  · refine (h1' _ (by omega)).trans ?_
    rw [OvB_ok _ (by omega) (by omega) y x g1 g0, cmn_eq _ (by omega) x y g0 g1, ovB_comm]
end Go.Proofs.Ytdgdjbehddeepaa.Pure
