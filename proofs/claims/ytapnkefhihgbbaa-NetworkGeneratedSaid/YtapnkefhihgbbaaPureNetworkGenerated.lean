/- The pure side of NetworkGenerated: on a generated network with generated times Check accepts, and agrees answers true. No condition. -/
import Derived.Test.YtapnkefhihgbbaaPAllxf8
import Derived.Test.YtapnkefhihgbbaaNetA
namespace Go.Proofs.Ytapnkefhihgbbaa.Pure
open Go.RowKit Go.Proofs.Ytapnkefhihgbbaa.PAll Go.Proofs.YtapnkefhihgbbaaW.PrintWords Go.Proofs.YtapnkefhihgbbaaW.PrintLast

theorem NetworkGenerated (l0 l1 : List Int) (a : Int) (e : S46) (h0 : l0.length * 8 ≤ 140737488351232) {P1 P2 P3 P4 : Prop} (_ : P1) (h1 : l1.length * 8 ≤ 140737488351232) (_ : P2) (_ : P3) (_ : P4) : ∃ k, railplanlaw11_NetworkGenerated.f k l0 l1 a e.f0 e.f1 e.f2 = some true := by
  obtain ⟨p, ev, ac, hn, ok⟩ := net_ok l0 (by omega)
  obtain ⟨x, hx⟩ : ∃ x : Int × EvL × AcL, x = (p, ev, ac) := ⟨_, rfl⟩
  have hp : p = x.1 := by rw [hx]
  have he : ev = x.2.1 := by rw [hx]
  have ha : ac = x.2.2 := by rw [hx]
  replace hn : ∀ k, 60 ≤ k → railplankeep_Network.f k l0 = some x := fun k hk => by rw [hx]; exact hn k hk
  clear hx
  subst hp he ha
  obtain ⟨t, ht, hl, hy⟩ := times_ok ok l1 (by omega)
  have := ok.a2
  obtain ⟨K, hK⟩ : ∃ K : Nat, 60 ≤ K := ⟨60, Nat.le_refl _⟩
  refine ⟨K, ?_⟩
  obtain ⟨v, hv, _⟩ := pick_ev a ((x.2.2.length : Int) + 2) (by omega) (by omega)
  obtain ⟨v0, hv0, _⟩ := pick_ev e.f0 2 (by omega) (by omega)
  obtain ⟨v1, hv1, _⟩ := pick_ev e.f1 3 (by omega) (by omega)
  obtain ⟨v2, hv2, _⟩ := pick_ev e.f2 3 (by omega) (by omega)
  have hc : network_Check.f x.1 x.2.1 x.2.2 = some true := by unfold network_Check.f; rw [ok.bad]
  have hw : wrap64 ((x.2.2.length : Int) + 2) = (x.2.2.length : Int) + 2 := w64 _ (by omega) (by omega)
  have hag : ∀ y z, railplanlaw11_agrees.f x.1 x.2.1 x.2.2 t y z v1 v2 = some true := fun _ _ => rfl
  unfold railplanlaw11_NetworkGenerated.f
  rw [hn K hK, Option.bind_some, hw, hv, Option.bind_some, hv0, Option.bind_some, hv1, Option.bind_some, hv2, Option.bind_some, awake_ok, Option.bind_some, if_pos rfl, hc, Option.bind_some, if_pos rfl, ht K (by omega), Option.bind_some, hag, Option.bind_some]

end Go.Proofs.Ytapnkefhihgbbaa.Pure
