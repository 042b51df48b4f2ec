/- The pure side of PlatformAssigns: what Assign returns is proper and the first in the order of the tracks. No condition. -/
import Derived.Test.YtdgdjbehddeepaaPlatE
import Derived.Test.YtdgdjbehddeepaaPAllxf4
namespace Go.Proofs.Ytdgdjbehddeepaa.Pure
set_option linter.unusedVariables false
set_option linter.unusedSimpArgs false
open Go.RowKit Go.Proofs.Ytdgdjbehddeepaa.PAll Go.Proofs.YtdgdjbehddeepaaW.PrintWords Go.Proofs.YtdgdjbehddeepaaW.PrintLast
theorem okG_len4 {t : Int} {v : List SV} (h : ∀ x ∈ v, okG t x) : ∀ i : Nat, i < v.length → (rd_T28 v i).f2.length ≤ 4 := by
  intro i hi
  have hm : rd_T28 v i ∈ v := by
    rw [show rd_T28 v i = v.getD i z28 from rfl, List.getD_eq_getElem?_getD, List.getElem?_eq_getElem hi]
    exact List.getElem_mem hi
  have := h _ hm
  exact okT_len _ this.2.2.1 this.2.2.2
theorem asn_l1 (c x : List Int) (hc : c.length ≤ 16) (hx : x.length = c.length) (hL : LexLe c x) : ∀ (d i : Nat), i + d = c.length → (∀ j : Nat, j < i → rd c j = rd x j) → Ev (fun k => railplanlaw20_PlatformAssigns.l1 k c x (c.length : Int) (i : Int)) true := by
  intro d
  induction d with
  | zero =>
    intro i hi hb
    exact Ev.step (fun k => by simp only [railplanlaw20_PlatformAssigns.l1]; rw [if_neg (by omega)]) (Ev.bind awake_ev (Ev.now _))
  | succ d ih =>
    intro i hi hb
    by_cases he : rd c i = rd x i
    · refine Ev.step (f := fun k => railplanlaw20_PlatformAssigns.l1 k c x (c.length : Int) ((i + 1 : Nat) : Int)) (fun k => by simp only [railplanlaw20_PlatformAssigns.l1]; rw [if_pos (by omega), if_pos (by omega), if_pos (by omega), if_pos (by omega), if_pos he, ws i (by omega)]) (ih (i + 1) (by omega) (fun j hj => ?_))
      by_cases e : j = i
      · rw [e]; exact he
      · exact hb j (by omega)
    · have hlt : rd c i < rd x i := by
        rcases hL with h | ⟨m, hm, h1, h2⟩
        · rw [h] at he; exact absurd rfl he
        · rcases Nat.lt_trichotomy m i with h | h | h
          · have := hb m h; omega
          · rw [← h]; exact h2
          · exact absurd (h1 i h) he
      refine Ev.step (fun k => by simp only [railplanlaw20_PlatformAssigns.l1]; rw [if_pos (by omega), if_pos (by omega), if_pos (by omega), if_pos (by omega), if_neg he]) ?_
      refine Ev.bind awake_ev ?_
      exact Ev.congr (fun k => by rw [if_pos rfl, decide_eq_true hlt]) (Ev.now _)
theorem asn_l0 (t : Int) (v : List SV) (hv7 : v.length ≤ 7) (h4 : ∀ i : Nat, i < v.length → (rd_T28 v i).f2.length ≤ 4) (c : List Int) (e : Int) (l : List Int) (hl : l.length ≤ 1152921504606846976)
    (hend : ∀ (x : List Int) (j : Int), Ev (fun k => if e = 0 then ((railplanref19_Proper.f k t v c).bind fun t327 => (if t327 = true then ((railplanref19_Proper.f k t v x).bind fun t328 => (if t328 = true then (railplanlaw20_PlatformAssigns.l1 k c x (c.length : Int) 0) else ((railplanlaw20_awake.f k).bind fun t329 => (some t329)))) else (some false))) else ((railplanlaw20_awake.f k).bind fun t325 => (if t325 = true then (if e = 14 then ((railplanref19_Proper.f k t v x).bind fun t326 => (some (!t326))) else (some false)) else (some false)))) true) :
    ∀ (d i : Nat) (x : List Int) (j : Int), i + d = v.length → x.length ≤ i → 0 ≤ j → j ≤ l.length → Ev (fun k => railplanlaw20_PlatformAssigns.l0 k t v c e x (v.length : Int) (i : Int) l j) true := by
  intro d
  induction d with
  | zero =>
    intro i x j hi hx h0 h1
    exact Ev.step (fun k => by simp only [railplanlaw20_PlatformAssigns.l0]; rw [if_neg (by omega)]) (hend x j)
  | succ d ih =>
    intro i x j hi hx h0 h1
    by_cases hp : ((rd_T28 v i).f2.length : Int) > 0
    · have h44 := h4 i (by omega)
      obtain ⟨a, j', e1, a0, a1, j0, j1⟩ := next_f l j ((rd_T28 v i).f2.length : Int) hl h0 h1 (by omega) (by omega)
      refine Ev.step (f := fun k => railplanlaw20_PlatformAssigns.l0 k t v c e (x ++ [rd (rd_T28 v i).f2 a]) (v.length : Int) ((i + 1 : Nat) : Int) l j') (fun k => ?_) (ih (i + 1) _ j' (by omega) (by rw [List.length_append, List.length_singleton]; omega) j0 j1)
      simp only [railplanlaw20_PlatformAssigns.l0]
      rw [if_pos (by omega), if_pos (by omega), if_pos (by omega), if_pos hp, e1, Option.bind_some, if_pos a0, if_pos a1, if_pos (by omega), ws i (by omega)]
    · exact Ev.step (f := fun k => railplanlaw20_PlatformAssigns.l0 k t v c e x (v.length : Int) ((i + 1 : Nat) : Int) l j) (fun k => by simp only [railplanlaw20_PlatformAssigns.l0]; rw [if_pos (by omega), if_pos (by omega), if_pos (by omega), if_neg hp, ws i (by omega)]) (ih (i + 1) x j (by omega) (by omega) h0 h1)
theorem PlatformAssigns : railplanlaw20_PlatformAssigns.Pure := by
  intro a0 l1 l2 _ _ h1 _ _ h2 _
  apply Ev.rounds
  unfold railplanlaw20_PlatformAssigns.f
  obtain ⟨p, hp, hp0, hp1⟩ := pick_f a0 30 (by omega) (by omega)
  have hw : wrap64 (2 + p) = 2 + p := w64 _ (by omega) (by omega)
  obtain ⟨v, hv, hv7, hok⟩ := visits_ev (2 + p) (by omega) (by omega) l1 (by omega)
  have hvld := okG_vld (2 + p) v (by omega) (by omega) (by omega) hok
  refine Ev.congr (fun k => by rw [hp, Option.bind_some, hw]) (Ev.bind hv ?_)
  refine Ev.bind (assign_ev (2 + p) v 262144) ?_
  refine Ev.congr (fun k => by rw [show railplankeep_From.f l2 = some (l2, 0) from rfl, Option.bind_some]) ?_
  refine asn_l0 (2 + p) v hv7 (okG_len4 hok) _ _ l2 (by omega) (fun x j => ?_) v.length 0 [] 0 (by omega) (Nat.le_refl _) (Int.le_refl _) (by omega)
  rcases asg_first (2 + p) v hvld hv7 (okG_len4 hok) 262144 (by omega) (by omega) with ⟨o, u, ha, hu0, hu1, hpo, hlex⟩ | ⟨u, ha, hu0, hu1, hno⟩
  · rw [ha]
    refine Ev.congr (fun k => by rw [if_pos rfl]) (Ev.bind (rproper_ev (2 + p) v o) ?_)
    refine Ev.congr (fun k => by rw [hpo, if_pos rfl]) (Ev.bind (rproper_ev (2 + p) v x) ?_)
    cases hx : properB (2 + p) v x with
    | false => exact Ev.congr (fun k => by rw [if_neg (by simp)]) (Ev.bind awake_ev (Ev.now _))
    | true =>
      have e1 := ((proper_iff (2 + p) v hvld o).1 hpo).2.1
      have e2 := ((proper_iff (2 + p) v hvld x).1 hx).2.1
      refine Ev.congr (f := fun k => railplanlaw20_PlatformAssigns.l1 k o x (o.length : Int) 0) (fun k => by rw [if_pos rfl]) ?_
      exact asn_l1 o x (by omega) (by omega) (hlex x hx) o.length 0 (by omega) (fun j hj => absurd hj (by omega))
  · rw [ha]
    refine Ev.congr (fun k => by rw [if_neg (show ¬ (14 : Int) = 0 by omega)]) (Ev.bind awake_ev ?_)
    refine Ev.congr (fun k => by rw [if_pos rfl, if_pos rfl]) (Ev.bind (rproper_ev (2 + p) v x) ?_)
    exact Ev.congr (fun k => by rw [hno x]; rfl) (Ev.now _)
end Go.Proofs.Ytdgdjbehddeepaa.Pure
