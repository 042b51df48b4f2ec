/- Plain facts: on every network, times, index and event the functions of layer 11 answer as their references do. Lengths below 2^60. -/
import Derived.Test.YtapnkefhihgbbaaPAllxf21
import Derived.Test.YtapnkefhihgbbaaNetA
namespace Go.Proofs.Ytapnkefhihgbbaa.Pure
open Go.RowKit Go.Proofs.Ytapnkefhihgbbaa.PAll Go.Proofs.YtapnkefhihgbbaaW.PrintWords Go.Proofs.YtapnkefhihgbbaaW.PrintLast

abbrev EvL := List S46
abbrev AcL := List S31

theorem refIn_eq (a lo hi : Int) : railplanref11_in.f a lo hi = some (decide (lo ≤ a) && decide (a ≤ hi)) := network_within.eq a lo hi
theorem refMod_eq' (a m : Int) (h1 : 1 ≤ m) (h2 : m ≤ 4611686018427387904) : railplanref1_Mod.f a m = some (a % m) := arith_Mod.eq a m h1 h2

theorem rd_at (ac : AcL) (j : Nat) (hl : j < ac.length) : rd_T31 ac (j : Int) = ac[j] := by
  unfold rd_T31; rw [Int.toNat_natCast, List.getD_eq_getElem?_getD, List.getElem?_eq_getElem hl]; rfl

theorem check_l0 (p : Int) (ev : EvL) (ac : AcL) (he : ev.length ≤ 48) (ha : ac.length ≤ 512) (d : Nat) :
    ∀ (k j : Nat), j + d = ac.length → d < k → railplanref11_Check.l0 k (j : Int) p ev ac = some (!((ac.drop j).any (network_Check.bad p ((ev.length : Int) - 1)))) := by
  induction d with
  | zero =>
    intro k j hj hk
    obtain ⟨k, rfl⟩ : ∃ m, k = m + 1 := ⟨k - 1, by omega⟩
    simp only [railplanref11_Check.l0]
    rw [if_neg (by omega), List.drop_of_length_le (by omega)]; rfl
  | succ d ih =>
    intro k j hj hk
    obtain ⟨k, rfl⟩ : ∃ m, k = m + 1 := ⟨k - 1, by omega⟩
    have hl : j < ac.length := by omega
    have h := ih k (j + 1) (by omega) (by omega)
    rw [List.drop_eq_getElem_cons hl, List.any_cons]
    simp only [railplanref11_Check.l0]
    rw [if_pos (by omega), if_pos (by omega), rd_at ac j hl, w64 ((ev.length : Int) - 1) (by omega) (by omega), refIn_eq, refIn_eq, refIn_eq, w64 ((j : Int) + 1) (by omega) (by omega)]
    have ej : ((j + 1 : Nat) : Int) = (j : Int) + 1 := by omega
    rw [ej] at h
    simp only [Option.bind_some]
    rw [h]
    generalize (ac.drop (j + 1)).any (network_Check.bad p ((ev.length : Int) - 1)) = rest
    unfold network_Check.bad
    cases c1 : (decide (0 ≤ ac[j].f1) && decide (ac[j].f1 ≤ (ev.length : Int) - 1))
    · simp
    cases c2 : (decide (0 ≤ ac[j].f2) && decide (ac[j].f2 ≤ (ev.length : Int) - 1))
    · simp
    simp only [if_true, Bool.not_true, Bool.false_or]
    by_cases c3 : ac[j].f1 = ac[j].f2
    · rw [if_pos c3, beq_iff_eq.mpr c3]; simp
    rw [if_neg c3, beq_eq_false_iff_ne.mpr c3]
    by_cases c4 : ac[j].f3 < -65536
    · rw [if_pos c4, decide_eq_true c4]; simp
    rw [if_neg c4, decide_eq_false c4]
    by_cases c5 : ac[j].f4 > 65536
    · rw [if_pos c5, decide_eq_true (show 65536 < ac[j].f4 from c5)]; simp
    rw [if_neg c5, decide_eq_false (show ¬ 65536 < ac[j].f4 from c5)]
    by_cases c6 : ac[j].f3 > ac[j].f4
    · rw [if_pos c6, decide_eq_true (show ac[j].f4 < ac[j].f3 from c6)]; simp
    rw [if_neg c6, decide_eq_false (show ¬ ac[j].f4 < ac[j].f3 from c6)]
    by_cases c7 : wrap64 (ac[j].f4 - ac[j].f3) ≥ p
    · rw [if_pos c7, decide_eq_true (show p ≤ wrap64 (ac[j].f4 - ac[j].f3) from c7)]; simp
    rw [if_neg c7, decide_eq_false (show ¬ p ≤ wrap64 (ac[j].f4 - ac[j].f3) from c7)]
    cases c8 : (decide (0 ≤ ac[j].f5) && decide (ac[j].f5 ≤ 1048576))
    · simp
    · simp

theorem check_eq (p : Int) (ev : EvL) (ac : AcL) (k : Nat) (hk : 600 ≤ k) : railplanref11_Check.f k p ev ac = some (network_Check.b p ev ac) := by
  obtain ⟨k, rfl⟩ : ∃ m, k = m + 1 := ⟨k - 1, by omega⟩
  unfold railplanref11_Check.f network_Check.b
  rw [refIn_eq]
  simp only [Option.bind_some]
  cases c1 : (decide (2 ≤ p) && decide (p ≤ 7200))
  · simp [railplanref11_Check.j0]
  simp only [if_true, Bool.true_and]
  by_cases c2 : (ev.length : Int) > 48
  · rw [if_pos c2, decide_eq_false (show ¬ ev.length ≤ 48 by omega)]; simp [railplanref11_Check.j0]
  rw [if_neg c2, decide_eq_true (show ev.length ≤ 48 by omega)]
  by_cases c3 : (ac.length : Int) > 512
  · rw [decide_eq_true c3, decide_eq_false (show ¬ ac.length ≤ 512 by omega)]; simp [railplanref11_Check.j0]
  rw [decide_eq_false c3, decide_eq_true (show ac.length ≤ 512 by omega)]
  have h := check_l0 p ev ac (by omega) (by omega) ac.length k 0 (by omega) (by omega)
  simp only [railplanref11_Check.j0]
  simpa using h

theorem good_l0 (p : Int) (hp1 : 2 ≤ p) (hp2 : p ≤ 7200) (ev : EvL) (ac : AcL) (t : List Int) (ht : t.length ≤ 48) (d : Nat) :
    ∀ (k j : Nat), j + d = t.length → d < k → railplanref11_Good.l0 k t (j : Int) p ev ac = some (!((t.drop j).any (fun x => !(decide (0 ≤ x) && decide (x ≤ p - 1))))) := by
  induction d with
  | zero =>
    intro k j hj hk
    obtain ⟨k, rfl⟩ : ∃ m, k = m + 1 := ⟨k - 1, by omega⟩
    simp only [railplanref11_Good.l0]
    rw [if_neg (by omega), List.drop_of_length_le (by omega)]; rfl
  | succ d ih =>
    intro k j hj hk
    obtain ⟨k, rfl⟩ : ∃ m, k = m + 1 := ⟨k - 1, by omega⟩
    have hl : j < t.length := by omega
    have h := ih k (j + 1) (by omega) (by omega)
    have ej : ((j + 1 : Nat) : Int) = (j : Int) + 1 := by omega
    rw [ej] at h
    have hr : rd t (j : Int) = t[j] := by
      unfold rd; rw [Int.toNat_natCast, List.getD_eq_getElem?_getD, List.getElem?_eq_getElem hl]; rfl
    rw [List.drop_eq_getElem_cons hl, List.any_cons]
    simp only [railplanref11_Good.l0]
    rw [if_pos (by omega), if_pos (by omega), hr, w64 (p - 1) (by omega) (by omega), refIn_eq, w64 ((j : Int) + 1) (by omega) (by omega)]
    simp only [Option.bind_some]
    rw [h]
    cases (decide (0 ≤ t[j]) && decide (t[j] ≤ p - 1)) <;> simp

theorem good_eq (p : Int) (ev : EvL) (ac : AcL) (t : List Int) (k : Nat) (hk : 700 ≤ k) : railplanref11_Good.f k p ev ac t = some (network_Good.b p ev ac t) := by
  obtain ⟨k, rfl⟩ : ∃ m, k = m + 1 := ⟨k - 1, by omega⟩
  unfold railplanref11_Good.f network_Good.b
  rw [check_eq p ev ac _ (by omega)]
  simp only [Option.bind_some]
  cases c : network_Check.b p ev ac
  · simp [railplanref11_Good.j0]
  simp only [if_true, Bool.true_and]
  have hc : 2 ≤ p ∧ p ≤ 7200 ∧ ev.length ≤ 48 := by
    unfold network_Check.b at c; simp only [Bool.and_eq_true, decide_eq_true_eq] at c; exact ⟨c.1.1.1.1, c.1.1.1.2, c.1.1.2⟩
  by_cases e : t.length = ev.length
  · rw [decide_eq_true e]
    have h := good_l0 p hc.1 hc.2.1 ev ac t (by omega) t.length k 0 (by omega) (by omega)
    have e2 : ((t.length : Int) != (ev.length : Int)) = false := by simp [e]
    rw [e2]
    simp only [railplanref11_Good.j0]
    simpa using h
  · rw [decide_eq_false e]
    have e2 : ((t.length : Int) != (ev.length : Int)) = true := by simp; omega
    rw [e2]
    simp [railplanref11_Good.j0]

theorem refLasts_eq {p : Int} {ev : EvL} {ac : AcL} {t : List Int} (IS : network_Good.Is p ev ac t) {x : S31} (hx : x ∈ ac) :
    railplanref11_Lasts.f p ev ac t x.f0 x.f1 x.f2 x.f3 x.f4 x.f5 = some (network_lasts.v p t x) ∧ -73000 ≤ network_lasts.v p t x ∧ network_lasts.v p t x ≤ 73000 := by
  obtain ⟨a, b, c, d, e, f, _⟩ := IS.ac x hx
  have := IS.p1; have := IS.p2
  have hr : ∀ i : Int, 0 ≤ i → i < t.length → 0 ≤ rd t i ∧ rd t i ≤ p - 1 := fun i h0 h1 => by
    unfold rd
    have hl : i.toNat < t.length := by omega
    rw [List.getD_eq_getElem?_getD, List.getElem?_eq_getElem hl]
    exact IS.ts _ (List.getElem_mem hl)
  have ra := hr x.f1 a.1 a.2
  have rb := hr x.f2 b.1 b.2
  have p1 := Int.emod_nonneg (rd t x.f2 - rd t x.f1 - x.f3) (show p ≠ 0 by omega)
  have p2 := Int.emod_lt_of_pos (rd t x.f2 - rd t x.f1 - x.f3) (show 0 < p by omega)
  unfold network_lasts.v
  refine ⟨?_, by omega, by omega⟩
  unfold railplanref11_Lasts.f
  rw [if_pos b.1, if_pos b.2, if_pos a.1, if_pos a.2, w64 (rd t x.f2 - rd t x.f1) (by omega) (by omega), w64 (rd t x.f2 - rd t x.f1 - x.f3) (by omega) (by omega), refMod_eq' _ _ (by omega) (by omega)]
  simp only [Option.bind_some]
  rw [w64 _ (by omega) (by omega)]

theorem first_l0 {p : Int} {ev : EvL} {ac : AcL} {t : List Int} (IS : network_Good.Is p ev ac t) (d : Nat) :
    ∀ (k j : Nat), j + d = ac.length → d < k → (∀ i : Nat, i < j → decide ((rd_T31 ac (i : Int)).f4 < network_lasts.v p t (rd_T31 ac (i : Int))) = false) →
      railplanref11_First.l0 k t (j : Int) p ev ac = some (mx (act_ix (fun x => decide (x.f4 < network_lasts.v p t x)) ac) 0, decide (0 ≤ act_ix (fun x => decide (x.f4 < network_lasts.v p t x)) ac)) := by
  have hla := IS.la
  induction d with
  | zero =>
    intro k j hj hk hb
    obtain ⟨k, rfl⟩ : ∃ m, k = m + 1 := ⟨k - 1, by omega⟩
    simp only [railplanref11_First.l0]
    rw [if_neg (by omega), act_ix_miss _ ac (fun i hi => hb i (by omega))]; rfl
  | succ d ih =>
    intro k j hj hk hb
    obtain ⟨k, rfl⟩ : ∃ m, k = m + 1 := ⟨k - 1, by omega⟩
    have hl : j < ac.length := by omega
    simp only [railplanref11_First.l0]
    rw [if_pos (by omega), if_pos (by omega), (refLasts_eq IS (rd_mem ac (j : Int) (by omega) (by omega))).1]
    simp only [Option.bind_some]
    by_cases c : network_lasts.v p t (rd_T31 ac (j : Int)) > (rd_T31 ac (j : Int)).f4
    · rw [if_pos c, act_ix_hit _ ac j hl (decide_eq_true c) hb]
      have e : mx (j : Int) 0 = j := by unfold mx; omega
      rw [e, decide_eq_true (by omega)]
    · rw [if_neg c, w64 ((j : Int) + 1) (by omega) (by omega)]
      have h := ih k (j + 1) (by omega) (by omega) (fun i hi => by
        by_cases e : i = j
        · subst e; exact decide_eq_false c
        · exact hb i (by omega))
      have ej : ((j + 1 : Nat) : Int) = (j : Int) + 1 := by omega
      rw [ej] at h
      exact h

theorem first_eq (p : Int) (ev : EvL) (ac : AcL) (t : List Int) (k : Nat) (hk : 800 ≤ k) : railplanref11_First.f k p ev ac t = some (network_First.b p ev ac t) := by
  unfold railplanref11_First.f network_First.b
  rw [good_eq p ev ac t k (by omega)]
  simp only [Option.bind_some]
  cases g : network_Good.b p ev ac t
  · rfl
  · have IS := network_Good.is g
    have hla := IS.la
    simp only [if_true]
    exact first_l0 IS ac.length k 0 (by omega) (by omega) (fun i hi => absurd hi (Nat.not_lt_zero _))

theorem cost_both {p : Int} {ev : EvL} {ac : AcL} {t : List Int} (IS : network_Good.Is p ev ac t) (d : Nat) :
    ∀ (k j : Nat) (s : Int), j + d = ac.length → d < k → ∃ c, network_Cost.l0 k t s ac (ac.length : Int) (j : Int) p ev ac = some (c, 0) ∧ railplanref11_Cost.l0 k t s (j : Int) p ev ac = some (c, 0) := by
  have hla := IS.la
  induction d with
  | zero =>
    intro k j s hj hk
    obtain ⟨k, rfl⟩ : ∃ m, k = m + 1 := ⟨k - 1, by omega⟩
    simp only [network_Cost.l0, railplanref11_Cost.l0]
    rw [if_neg (by omega), if_neg (by omega)]
    exact ⟨s, rfl, rfl⟩
  | succ d ih =>
    intro k j s hj hk
    obtain ⟨k, rfl⟩ : ∃ m, k = m + 1 := ⟨k - 1, by omega⟩
    have h0 : (0 : Int) ≤ (j : Int) := by omega
    have h1 : (j : Int) < (ac.length : Int) := by omega
    have hmem := rd_mem ac (j : Int) h0 h1
    obtain ⟨a, b, c, e, f, f2, _⟩ := IS.ac _ hmem
    simp only [network_Cost.l0, railplanref11_Cost.l0]
    rw [if_pos h1, if_pos h0, if_pos h1, if_pos h1, if_pos h0, (refLasts_eq IS hmem).1, network_lasts.eq p ev ac t _ IS.p1 IS.p2 IS.ts a b ⟨e, by omega⟩]
    simp only [Option.bind_some]
    rw [w64 ((j : Int) + 1) (by omega) (by omega)]
    exact ih k (j + 1) _ (by omega) (by omega)

theorem cost_eq (p : Int) (ev : EvL) (ac : AcL) (t : List Int) (k : Nat) (hk : 800 ≤ k) : ∃ c f, network_Cost.f k p ev ac t = some (c, f) ∧ railplanref11_Cost.f k p ev ac t = some (c, f) := by
  unfold railplanref11_Cost.f network_Cost.f network_Good.f
  rw [good_eq p ev ac t k (by omega)]
  simp only [Option.bind_some]
  cases g : network_Good.b p ev ac t
  · exact ⟨0, 1, rfl, rfl⟩
  · have IS := network_Good.is g
    have hla := IS.la
    obtain ⟨c, h1, h2⟩ := cost_both IS ac.length k 0 0 (by omega) (by omega)
    simp only [if_true]
    exact ⟨c, 0, h1, h2⟩

theorem dur_eq (p : Int) (ev : EvL) (ac : AcL) (t : List Int) (a : Int) (hac : ac.length ≤ 1152921504606846976) (k : Nat) (hk : 800 ≤ k) : ∃ d, network_Duration.f p ev ac t a = some d ∧ railplanref11_Duration.f k p ev ac t a = some d := by
  have w : wrap64 ((ac.length : Int) - 1) = (ac.length : Int) - 1 := w64 _ (by omega) (by omega)
  cases g : network_Good.b p ev ac t
  · refine ⟨0, ?_, ?_⟩
    · unfold network_Duration.f network_Good.f
      rw [network_within.eq, g]
      simp only [Option.bind_some]
      cases (decide (0 ≤ a) && decide (a ≤ wrap64 ((ac.length : Int) - 1))) <;> rfl
    · unfold railplanref11_Duration.f
      rw [good_eq p ev ac t k (by omega), g]; rfl
  · have IS := network_Good.is g
    by_cases h : 0 ≤ a ∧ a < ac.length
    · refine ⟨_, dur_ok g a h.1 h.2, ?_⟩
      unfold railplanref11_Duration.f
      rw [good_eq p ev ac t k (by omega), g, refIn_eq, w, decide_eq_true h.1, decide_eq_true (show a ≤ (ac.length : Int) - 1 by omega)]
      simp only [Option.bind_some, if_true, Bool.and_self]
      rw [if_pos h.1, if_pos h.2, (refLasts_eq IS (rd_mem ac a h.1 h.2)).1]; rfl
    · have hf : (decide (0 ≤ a) && decide (a ≤ (ac.length : Int) - 1)) = false := by
        rw [Bool.and_eq_false_iff, decide_eq_false_iff_not, decide_eq_false_iff_not]; omega
      refine ⟨0, ?_, ?_⟩
      · unfold network_Duration.f
        rw [network_within.eq, w, hf]; rfl
      · unfold railplanref11_Duration.f
        rw [good_eq p ev ac t k (by omega), g, refIn_eq, w, hf]; rfl

theorem feas_eq (p : Int) (ev : EvL) (ac : AcL) (t : List Int) (k : Nat) (hk : 800 ≤ k) : ∃ d, network_Feasible.f p ev ac t = some d ∧ railplanref11_Feasible.f k p ev ac t = some d := by
  unfold network_Feasible.f railplanref11_Feasible.f network_First.f network_Good.f
  rw [good_eq p ev ac t k (by omega), first_eq p ev ac t k (by omega)]
  simp only [Option.bind_some]
  unfold network_First.b
  cases g : network_Good.b p ev ac t
  · exact ⟨false, rfl, rfl⟩
  · simp only [if_true]
    cases decide (0 ≤ act_ix (fun x => decide (x.f4 < network_lasts.v p t x)) ac)
    · exact ⟨true, rfl, rfl⟩
    · exact ⟨false, rfl, rfl⟩

theorem index_l0 (p : Int) (ev : EvL) (ac : AcL) (e0 e1 e2 : Int) (hev : ev.length ≤ 1152921504606846976) (d : Nat) :
    ∀ (k j : Nat), j + d = ev.length → d < k → ∃ r, api_Event.l0 k ev (ev.length : Int) (j : Int) e0 e1 e2 = some r ∧ railplanref11_Index.l0 k (j : Int) p ev ac e0 e1 e2 = some r := by
  induction d with
  | zero =>
    intro k j hj hk
    obtain ⟨k, rfl⟩ : ∃ m, k = m + 1 := ⟨k - 1, by omega⟩
    simp only [api_Event.l0, railplanref11_Index.l0]
    rw [if_neg (by omega), if_neg (by omega)]
    exact ⟨-1, rfl, rfl⟩
  | succ d ih =>
    intro k j hj hk
    obtain ⟨k, rfl⟩ : ∃ m, k = m + 1 := ⟨k - 1, by omega⟩
    have h0 : (0 : Int) ≤ (j : Int) := by omega
    have h1 : (j : Int) < (ev.length : Int) := by omega
    simp only [api_Event.l0, railplanref11_Index.l0]
    rw [if_pos h1, if_pos h0, if_pos h1, if_pos h1, if_pos h0, w64 ((j : Int) + 1) (by omega) (by omega)]
    generalize rd_T46 ev (j : Int) = x
    have e : (x.f0 == e0 && (x.f1 == e1 && x.f2 == e2)) = (e0 == x.f0 && (e1 == x.f1 && e2 == x.f2)) := by
      rw [Bool.beq_comm (a := x.f0), Bool.beq_comm (a := x.f1), Bool.beq_comm (a := x.f2)]
    rw [e]
    cases (e0 == x.f0 && (e1 == x.f1 && e2 == x.f2))
    · exact ih k (j + 1) (by omega) (by omega)
    · exact ⟨j, rfl, rfl⟩

theorem index_eq (p : Int) (ev : EvL) (ac : AcL) (e0 e1 e2 : Int) (hev : ev.length ≤ 1152921504606846976) (k : Nat) (hk : ev.length < k) : ∃ d, network_Index.f k p ev ac e0 e1 e2 = some d ∧ railplanref11_Index.f k p ev ac e0 e1 e2 = some d := by
  unfold network_Index.f railplanref11_Index.f api_Event.f
  obtain ⟨r, h1, h2⟩ := index_l0 p ev ac e0 e1 e2 hev ev.length k 0 (by omega) (by omega)
  refine ⟨r, ?_, h2⟩
  have h1' : api_Event.l0 k ev (ev.length : Int) 0 e0 e1 e2 = some r := h1
  rw [h1']; rfl

theorem agree_all (p : Int) (ev : EvL) (ac : AcL) (t : List Int) (a e0 e1 e2 : Int) (hev : ev.length ≤ 1152921504606846976) (hac : ac.length ≤ 1152921504606846976) : Agree p ev ac t a e0 e1 e2 := by
  have hk : 800 ≤ ev.length + 800 := by omega
  obtain ⟨c, f, c1, c2⟩ := cost_eq p ev ac t _ hk
  obtain ⟨du, d1, d2⟩ := dur_eq p ev ac t a hac _ hk
  obtain ⟨fe, f1, f2⟩ := feas_eq p ev ac t _ hk
  obtain ⟨ix, i1, i2⟩ := index_eq p ev ac e0 e1 e2 hev (ev.length + 800) (by omega)
  exact ⟨ev.length + 800, (network_First.b p ev ac t).1, (network_First.b p ev ac t).2, c, f, network_Check.b p ev ac, network_Good.b p ev ac t, du, fe, ix,
    rfl, first_eq p ev ac t _ hk, c1, c2, rfl, check_eq p ev ac _ (by omega), rfl, good_eq p ev ac t _ (by omega), d1, d2, f1, f2, i1, i2⟩

end Go.Proofs.Ytapnkefhihgbbaa.Pure
