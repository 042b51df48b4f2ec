/- The pure side of PlatformGenerated: generated visits, a choice out of them: agrees answers true for both budgets. No condition. -/
import Derived.Test.YtdgdjbehddeepaaPlatD
import Derived.Test.YtdgdjbehddeepaaPAllxf7
namespace Go.Proofs.Ytdgdjbehddeepaa.Pure
open Go.RowKit Go.Proofs.Ytdgdjbehddeepaa.PAll Go.Proofs.YtdgdjbehddeepaaW.PrintWords Go.Proofs.YtdgdjbehddeepaaW.PrintLast
theorem gen_j (t a3 : Int) (v : List SV) (c : List Int) : Ev (fun k => railplanlaw20_PlatformGenerated.j1 k t a3 v c) true := by
  obtain ⟨p, hp, hp0, hp1⟩ := pick_f a3 40 (by omega) (by omega)
  refine Ev.step (fun k => by simp only [railplanlaw20_PlatformGenerated.j1]; rfl) ?_
  refine Ev.bind awake_ev ?_
  refine Ev.congr (fun k => by rw [if_pos rfl]) ?_
  refine Ev.bind (agrees_ev t v c _) ?_
  refine Ev.congr (fun k => by rw [if_pos rfl, hp, Option.bind_some]) ?_
  exact Ev.bind (agrees_ev t v c _) (Ev.now _)
theorem gen_l (t a3 : Int) (v : List SV) (l2 : List Int) (hv : v.length ≤ 7) : ∀ (d i : Nat) (c : List Int), i + d = v.length → c.length = i → Ev (fun k => railplanlaw20_PlatformGenerated.l0 k t l2 a3 v c (i : Int)) true := by
  intro d
  induction d with
  | zero =>
    intro i c hi hc
    exact Ev.step (fun k => by simp only [railplanlaw20_PlatformGenerated.l0]; rw [if_neg (by omega)]) (gen_j t a3 v c)
  | succ d ih =>
    intro i c hi hc
    by_cases h : (i : Int) < (l2.length : Int)
    · obtain ⟨p, hp, hp0, hp1⟩ := pick_f (rd l2 i) 4 (by omega) (by omega)
      exact Ev.step (f := fun k => railplanlaw20_PlatformGenerated.l0 k t l2 a3 v (c ++ [p]) ((i + 1 : Nat) : Int)) (fun k => by simp only [railplanlaw20_PlatformGenerated.l0]; rw [if_pos (by omega), if_pos h, if_pos (by omega), hp, Option.bind_some, if_pos (by omega), ws i (by omega)]) (ih (i + 1) (c ++ [p]) (by omega) (by simp; omega))
    · exact Ev.step (fun k => by simp only [railplanlaw20_PlatformGenerated.l0]; rw [if_pos (by omega), if_neg h]) (gen_j t a3 v c)
theorem PlatformGenerated : railplanlaw20_PlatformGenerated.Pure := by
  intro a0 l1 l2 a3 _ _ h1 _ _ h2 _ _
  apply Ev.rounds
  unfold railplanlaw20_PlatformGenerated.f
  obtain ⟨p, hp, hp0, hp1⟩ := pick_f a0 30 (by omega) (by omega)
  have hw : wrap64 (2 + p) = 2 + p := w64 _ (by omega) (by omega)
  obtain ⟨v, hv, hv7, _⟩ := visits_ev (2 + p) (by omega) (by omega) l1 (by omega)
  exact Ev.congr (fun k => by rw [hp, Option.bind_some, hw]) (Ev.bind hv (gen_l (2 + p) a3 v l2 hv7 v.length 0 [] (by omega) rfl))
end Go.Proofs.Ytdgdjbehddeepaa.Pure
