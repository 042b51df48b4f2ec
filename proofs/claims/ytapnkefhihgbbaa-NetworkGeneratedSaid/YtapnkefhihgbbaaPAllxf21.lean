/- What calls of the Go functions below do, each under the premises that its theorem states. Laid by a program of the claimant, which drives the kit's print; some texts are written by hand. -/
import Derived.Test.YtapnkefhihgbbaaPAllx0
import Derived.Test.YtapnkefhihgbbaaPAllxf10
import Derived.Test.YtapnkefhihgbbaaPAllxf13
import Derived.Test.YtapnkefhihgbbaaPAllxf14
import Derived.Test.YtapnkefhihgbbaaPAllxf18
import Derived.Test.YtapnkefhihgbbaaPAllxf25
import Derived.Test.YtapnkefhihgbbaaPAllxf31
import Derived.Test.YtapnkefhihgbbaaPAllxf32
import Derived.Test.YtapnkefhihgbbaaPAllxf33
import Derived.Test.YtapnkefhihgbbaaPAllxf35
import Derived.Test.YtapnkefhihgbbaaPAllxf43
import Derived.Test.YtapnkefhihgbbaaPAllxf45
namespace Go.Proofs.Ytapnkefhihgbbaa.PAll
open Go.RowKit Go.Proofs.YtapnkefhihgbbaaW.PrintWords Go.Proofs.YtapnkefhihgbbaaW.PrintLast Go.Proofs.YtapnkefhihgbbaaW.PrintMore
attribute [local go_sem] max2_int min2_int max_two min_two max_three min_three max_four min_four   -- for this text's walks alone
set_option linter.unusedVariables false
set_option linter.unusedSimpArgs false

theorem w64 (x : Int) (h0 : -9223372036854775808 ≤ x) (h1 : x ≤ 9223372036854775807) : wrap64 x = x := by unfold wrap64; omega
theorem rd_mem (ac : List S31) (i : Int) (h0 : 0 ≤ i) (h1 : i < ac.length) : rd_T31 ac i ∈ ac := by
  unfold rd_T31
  have hl : i.toNat < ac.length := by omega
  rw [List.getD_eq_getElem?_getD, List.getElem?_eq_getElem hl]; exact List.getElem_mem hl
theorem dur_ok {p : Int} {ev : List S46} {ac : List S31} {t : List Int} (g : network_Good.b p ev ac t = true) (i : Int) (h0 : 0 ≤ i) (h1 : i < ac.length) :
    network_Duration.f p ev ac t i = some (network_lasts.v p t (rd_T31 ac i)) := by
  have IS := network_Good.is g
  obtain ⟨a, b, c, d, e, f, _⟩ := IS.ac _ (rd_mem ac i h0 h1)
  have hla := IS.la
  unfold network_Duration.f
  rw [network_within.eq, w64 ((ac.length : Int) - 1) (by omega) (by omega), decide_eq_true h0, decide_eq_true (show i ≤ (ac.length : Int) - 1 by omega)]
  simp only [Option.bind_some, Bool.and_self, if_true]
  unfold network_Good.f
  rw [g]
  simp only [Option.bind_some, if_true]
  rw [if_pos h0, if_pos h1, network_lasts.eq p ev ac t _ IS.p1 IS.p2 IS.ts a b ⟨d, by omega⟩]
  rfl
/-- All functions and their references answer alike. -/
structure Agree (p : Int) (ev : List S46) (ac : List S31) (t : List Int) (a e0 e1 e2 : Int) : Prop where
  ex : ∃ (k : Nat) (x : Int) (is_ : Bool) (c f : Int) (ck gd : Bool) (du : Int) (fe : Bool) (ix : Int), network_First.f p ev ac t = some (x, is_) ∧ railplanref11_First.f k p ev ac t = some (x, is_) ∧ network_Cost.f k p ev ac t = some (c, f) ∧ railplanref11_Cost.f k p ev ac t = some (c, f) ∧ network_Check.f p ev ac = some ck ∧ railplanref11_Check.f k p ev ac = some ck ∧ network_Good.f p ev ac t = some gd ∧ railplanref11_Good.f k p ev ac t = some gd ∧ network_Duration.f p ev ac t a = some du ∧ railplanref11_Duration.f k p ev ac t a = some du ∧ network_Feasible.f p ev ac t = some fe ∧ railplanref11_Feasible.f k p ev ac t = some fe ∧ network_Index.f k p ev ac e0 e1 e2 = some ix ∧ railplanref11_Index.f k p ev ac e0 e1 e2 = some ix
abbrev EvL := List S46
abbrev AcL := List S31

theorem refIn_eq (a lo hi : Int) : railplanref11_in.f a lo hi = some (decide (lo ≤ a) && decide (a ≤ hi)) := network_within.eq a lo hi
theorem refMod_eq' (a m : Int) (h1 : 1 ≤ m) (h2 : m ≤ 4611686018427387904) : railplanref1_Mod.f a m = some (a % m) := arith_Mod.eq a m h1 h2

theorem rd_at (ac : AcL) (j : Nat) (hl : j < ac.length) : rd_T31 ac (j : Int) = ac[j] := by
  unfold rd_T31; rw [Int.toNat_natCast, List.getD_eq_getElem?_getD, List.getElem?_eq_getElem hl]; rfl

theorem check_l0 (p : Int) (ev : EvL) (ac : AcL) (he : ev.length ≤ 48) (ha : ac.length ≤ 512) (d : Nat) :
    ∀ (k j : Nat), j + d = ac.length → d < k → railplanref11_Check.l0 k (j : Int) p ev ac = some (!((ac.drop j).any (network_Check.bad p ((ev.length : Int) - 1)))) := by
  induction d with
  | zero =>
    intro k j hj hk
    obtain ⟨k, rfl⟩ : ∃ m, k = m + 1 := ⟨k - 1, by omega⟩
    simp only [railplanref11_Check.l0]
    rw [if_neg (by omega), List.drop_of_length_le (by omega)]; rfl
  | succ d ih =>
    intro k j hj hk
    obtain ⟨k, rfl⟩ : ∃ m, k = m + 1 := ⟨k - 1, by omega⟩
    have hl : j < ac.length := by omega
    have h := ih k (j + 1) (by omega) (by omega)
    rw [List.drop_eq_getElem_cons hl, List.any_cons]
    simp only [railplanref11_Check.l0]
    rw [if_pos (by omega), if_pos (by omega), rd_at ac j hl, w64 ((ev.length : Int) - 1) (by omega) (by omega), refIn_eq, refIn_eq, refIn_eq, w64 ((j : Int) + 1) (by omega) (by omega)]
    have ej : ((j + 1 : Nat) : Int) = (j : Int) + 1 := by omega
    rw [ej] at h
    simp only [Option.bind_some]
    rw [h]
    generalize (ac.drop (j + 1)).any (network_Check.bad p ((ev.length : Int) - 1)) = rest
    unfold network_Check.bad
    cases c1 : (decide (0 ≤ ac[j].f1) && decide (ac[j].f1 ≤ (ev.length : Int) - 1))
    · simp
    cases c2 : (decide (0 ≤ ac[j].f2) && decide (ac[j].f2 ≤ (ev.length : Int) - 1))
    · simp
    simp only [if_true, Bool.not_true, Bool.false_or]
    by_cases c3 : ac[j].f1 = ac[j].f2
    · rw [if_pos c3, beq_iff_eq.mpr c3]; simp
    rw [if_neg c3, beq_eq_false_iff_ne.mpr c3]
    by_cases c4 : ac[j].f3 < -65536
    · rw [if_pos c4, decide_eq_true c4]; simp
    rw [if_neg c4, decide_eq_false c4]
    by_cases c5 : ac[j].f4 > 65536
    · rw [if_pos c5, decide_eq_true (show 65536 < ac[j].f4 from c5)]; simp
    rw [if_neg c5, decide_eq_false (show ¬ 65536 < ac[j].f4 from c5)]
    by_cases c6 : ac[j].f3 > ac[j].f4
    · rw [if_pos c6, decide_eq_true (show ac[j].f4 < ac[j].f3 from c6)]; simp
    rw [if_neg c6, decide_eq_false (show ¬ ac[j].f4 < ac[j].f3 from c6)]
    by_cases c7 : wrap64 (ac[j].f4 - ac[j].f3) ≥ p
    · rw [if_pos c7, decide_eq_true (show p ≤ wrap64 (ac[j].f4 - ac[j].f3) from c7)]; simp
    rw [if_neg c7, decide_eq_false (show ¬ p ≤ wrap64 (ac[j].f4 - ac[j].f3) from c7)]
    cases c8 : (decide (0 ≤ ac[j].f5) && decide (ac[j].f5 ≤ 1048576))
    · simp
    · simp

theorem check_eq (p : Int) (ev : EvL) (ac : AcL) (k : Nat) (hk : 600 ≤ k) : railplanref11_Check.f k p ev ac = some (network_Check.b p ev ac) := by
  obtain ⟨k, rfl⟩ : ∃ m, k = m + 1 := ⟨k - 1, by omega⟩
  unfold railplanref11_Check.f network_Check.b
  rw [refIn_eq]
  simp only [Option.bind_some]
  cases c1 : (decide (2 ≤ p) && decide (p ≤ 7200))
  · simp [railplanref11_Check.j0]
  simp only [if_true, Bool.true_and]
  by_cases c2 : (ev.length : Int) > 48
  · rw [if_pos c2, decide_eq_false (show ¬ ev.length ≤ 48 by omega)]; simp [railplanref11_Check.j0]
  rw [if_neg c2, decide_eq_true (show ev.length ≤ 48 by omega)]
  by_cases c3 : (ac.length : Int) > 512
  · rw [decide_eq_true c3, decide_eq_false (show ¬ ac.length ≤ 512 by omega)]; simp [railplanref11_Check.j0]
  rw [decide_eq_false c3, decide_eq_true (show ac.length ≤ 512 by omega)]
  have h := check_l0 p ev ac (by omega) (by omega) ac.length k 0 (by omega) (by omega)
  simp only [railplanref11_Check.j0]
  simpa using h

theorem good_l0 (p : Int) (hp1 : 2 ≤ p) (hp2 : p ≤ 7200) (ev : EvL) (ac : AcL) (t : List Int) (ht : t.length ≤ 48) (d : Nat) :
    ∀ (k j : Nat), j + d = t.length → d < k → railplanref11_Good.l0 k t (j : Int) p ev ac = some (!((t.drop j).any (fun x => !(decide (0 ≤ x) && decide (x ≤ p - 1))))) := by
  induction d with
  | zero =>
    intro k j hj hk
    obtain ⟨k, rfl⟩ : ∃ m, k = m + 1 := ⟨k - 1, by omega⟩
    simp only [railplanref11_Good.l0]
    rw [if_neg (by omega), List.drop_of_length_le (by omega)]; rfl
  | succ d ih =>
    intro k j hj hk
    obtain ⟨k, rfl⟩ : ∃ m, k = m + 1 := ⟨k - 1, by omega⟩
    have hl : j < t.length := by omega
    have h := ih k (j + 1) (by omega) (by omega)
    have ej : ((j + 1 : Nat) : Int) = (j : Int) + 1 := by omega
    rw [ej] at h
    have hr : rd t (j : Int) = t[j] := by
      unfold rd; rw [Int.toNat_natCast, List.getD_eq_getElem?_getD, List.getElem?_eq_getElem hl]; rfl
    rw [List.drop_eq_getElem_cons hl, List.any_cons]
    simp only [railplanref11_Good.l0]
    rw [if_pos (by omega), if_pos (by omega), hr, w64 (p - 1) (by omega) (by omega), refIn_eq, w64 ((j : Int) + 1) (by omega) (by omega)]
    simp only [Option.bind_some]
    rw [h]
    cases (decide (0 ≤ t[j]) && decide (t[j] ≤ p - 1)) <;> simp

theorem good_eq (p : Int) (ev : EvL) (ac : AcL) (t : List Int) (k : Nat) (hk : 700 ≤ k) : railplanref11_Good.f k p ev ac t = some (network_Good.b p ev ac t) := by
  obtain ⟨k, rfl⟩ : ∃ m, k = m + 1 := ⟨k - 1, by omega⟩
  unfold railplanref11_Good.f network_Good.b
  rw [check_eq p ev ac _ (by omega)]
  simp only [Option.bind_some]
  cases c : network_Check.b p ev ac
  · simp [railplanref11_Good.j0]
  simp only [if_true, Bool.true_and]
  have hc : 2 ≤ p ∧ p ≤ 7200 ∧ ev.length ≤ 48 := by
    unfold network_Check.b at c; simp only [Bool.and_eq_true, decide_eq_true_eq] at c; exact ⟨c.1.1.1.1, c.1.1.1.2, c.1.1.2⟩
  by_cases e : t.length = ev.length
  · rw [decide_eq_true e]
    have h := good_l0 p hc.1 hc.2.1 ev ac t (by omega) t.length k 0 (by omega) (by omega)
    have e2 : ((t.length : Int) != (ev.length : Int)) = false := by simp [e]
    rw [e2]
    simp only [railplanref11_Good.j0]
    simpa using h
  · rw [decide_eq_false e]
    have e2 : ((t.length : Int) != (ev.length : Int)) = true := by simp; omega
    rw [e2]
    simp [railplanref11_Good.j0]

theorem refLasts_eq {p : Int} {ev : EvL} {ac : AcL} {t : List Int} (IS : network_Good.Is p ev ac t) {x : S31} (hx : x ∈ ac) :
    railplanref11_Lasts.f p ev ac t x.f0 x.f1 x.f2 x.f3 x.f4 x.f5 = some (network_lasts.v p t x) ∧ -73000 ≤ network_lasts.v p t x ∧ network_lasts.v p t x ≤ 73000 := by
  obtain ⟨a, b, c, d, e, f, _⟩ := IS.ac x hx
  have := IS.p1; have := IS.p2
  have hr : ∀ i : Int, 0 ≤ i → i < t.length → 0 ≤ rd t i ∧ rd t i ≤ p - 1 := fun i h0 h1 => by
    unfold rd
    have hl : i.toNat < t.length := by omega
    rw [List.getD_eq_getElem?_getD, List.getElem?_eq_getElem hl]
    exact IS.ts _ (List.getElem_mem hl)
  have ra := hr x.f1 a.1 a.2
  have rb := hr x.f2 b.1 b.2
  have p1 := Int.emod_nonneg (rd t x.f2 - rd t x.f1 - x.f3) (show p ≠ 0 by omega)
  have p2 := Int.emod_lt_of_pos (rd t x.f2 - rd t x.f1 - x.f3) (show 0 < p by omega)
  unfold network_lasts.v
  refine ⟨?_, by omega, by omega⟩
  unfold railplanref11_Lasts.f
  rw [if_pos b.1, if_pos b.2, if_pos a.1, if_pos a.2, w64 (rd t x.f2 - rd t x.f1) (by omega) (by omega), w64 (rd t x.f2 - rd t x.f1 - x.f3) (by omega) (by omega), refMod_eq' _ _ (by omega) (by omega)]
  simp only [Option.bind_some]
  rw [w64 _ (by omega) (by omega)]

theorem first_l0 {p : Int} {ev : EvL} {ac : AcL} {t : List Int} (IS : network_Good.Is p ev ac t) (d : Nat) :
    ∀ (k j : Nat), j + d = ac.length → d < k → (∀ i : Nat, i < j → decide ((rd_T31 ac (i : Int)).f4 < network_lasts.v p t (rd_T31 ac (i : Int))) = false) →
      railplanref11_First.l0 k t (j : Int) p ev ac = some (mx (act_ix (fun x => decide (x.f4 < network_lasts.v p t x)) ac) 0, decide (0 ≤ act_ix (fun x => decide (x.f4 < network_lasts.v p t x)) ac)) := by
  have hla := IS.la
  induction d with
  | zero =>
    intro k j hj hk hb
    obtain ⟨k, rfl⟩ : ∃ m, k = m + 1 := ⟨k - 1, by omega⟩
    simp only [railplanref11_First.l0]
    rw [if_neg (by omega), act_ix_miss _ ac (fun i hi => hb i (by omega))]; rfl
  | succ d ih =>
    intro k j hj hk hb
    obtain ⟨k, rfl⟩ : ∃ m, k = m + 1 := ⟨k - 1, by omega⟩
    have hl : j < ac.length := by omega
    simp only [railplanref11_First.l0]
    rw [if_pos (by omega), if_pos (by omega), (refLasts_eq IS (rd_mem ac (j : Int) (by omega) (by omega))).1]
    simp only [Option.bind_some]
    by_cases c : network_lasts.v p t (rd_T31 ac (j : Int)) > (rd_T31 ac (j : Int)).f4
    · rw [if_pos c, act_ix_hit _ ac j hl (decide_eq_true c) hb]
      have e : mx (j : Int) 0 = j := by unfold mx; omega
      rw [e, decide_eq_true (by omega)]
    · rw [if_neg c, w64 ((j : Int) + 1) (by omega) (by omega)]
      have h := ih k (j + 1) (by omega) (by omega) (fun i hi => by
        by_cases e : i = j
        · subst e; exact decide_eq_false c
        · exact hb i (by omega))
      have ej : ((j + 1 : Nat) : Int) = (j : Int) + 1 := by omega
      rw [ej] at h
      exact h

theorem first_eq (p : Int) (ev : EvL) (ac : AcL) (t : List Int) (k : Nat) (hk : 800 ≤ k) : railplanref11_First.f k p ev ac t = some (network_First.b p ev ac t) := by
  unfold railplanref11_First.f network_First.b
  rw [good_eq p ev ac t k (by omega)]
  simp only [Option.bind_some]
  cases g : network_Good.b p ev ac t
  · rfl
  · have IS := network_Good.is g
    have hla := IS.la
    simp only [if_true]
    exact first_l0 IS ac.length k 0 (by omega) (by omega) (fun i hi => absurd hi (Nat.not_lt_zero _))

theorem cost_both {p : Int} {ev : EvL} {ac : AcL} {t : List Int} (IS : network_Good.Is p ev ac t) (d : Nat) :
    ∀ (k j : Nat) (s : Int), j + d = ac.length → d < k → ∃ c, network_Cost.l0 k t s ac (ac.length : Int) (j : Int) p ev ac = some (c, 0) ∧ railplanref11_Cost.l0 k t s (j : Int) p ev ac = some (c, 0) := by
  have hla := IS.la
  induction d with
  | zero =>
    intro k j s hj hk
    obtain ⟨k, rfl⟩ : ∃ m, k = m + 1 := ⟨k - 1, by omega⟩
    simp only [network_Cost.l0, railplanref11_Cost.l0]
    rw [if_neg (by omega), if_neg (by omega)]
    exact ⟨s, rfl, rfl⟩
  | succ d ih =>
    intro k j s hj hk
    obtain ⟨k, rfl⟩ : ∃ m, k = m + 1 := ⟨k - 1, by omega⟩
    have h0 : (0 : Int) ≤ (j : Int) := by omega
    have h1 : (j : Int) < (ac.length : Int) := by omega
    have hmem := rd_mem ac (j : Int) h0 h1
    obtain ⟨a, b, c, e, f, f2, _⟩ := IS.ac _ hmem
    simp only [network_Cost.l0, railplanref11_Cost.l0]
    rw [if_pos h1, if_pos h0, if_pos h1, if_pos h1, if_pos h0, (refLasts_eq IS hmem).1, network_lasts.eq p ev ac t _ IS.p1 IS.p2 IS.ts a b ⟨e, by omega⟩]
    simp only [Option.bind_some]
    rw [w64 ((j : Int) + 1) (by omega) (by omega)]
    exact ih k (j + 1) _ (by omega) (by omega)

theorem cost_eq (p : Int) (ev : EvL) (ac : AcL) (t : List Int) (k : Nat) (hk : 800 ≤ k) : ∃ c f, network_Cost.f k p ev ac t = some (c, f) ∧ railplanref11_Cost.f k p ev ac t = some (c, f) := by
  unfold railplanref11_Cost.f network_Cost.f network_Good.f
  rw [good_eq p ev ac t k (by omega)]
  simp only [Option.bind_some]
  cases g : network_Good.b p ev ac t
  · exact ⟨0, 1, rfl, rfl⟩
  · have IS := network_Good.is g
    have hla := IS.la
    obtain ⟨c, h1, h2⟩ := cost_both IS ac.length k 0 0 (by omega) (by omega)
    simp only [if_true]
    exact ⟨c, 0, h1, h2⟩

theorem dur_eq (p : Int) (ev : EvL) (ac : AcL) (t : List Int) (a : Int) (hac : ac.length ≤ 9223372036854775807) (k : Nat) (hk : 800 ≤ k) : ∃ d, network_Duration.f p ev ac t a = some d ∧ railplanref11_Duration.f k p ev ac t a = some d := by
  have w : wrap64 ((ac.length : Int) - 1) = (ac.length : Int) - 1 := w64 _ (by omega) (by omega)
  cases g : network_Good.b p ev ac t
  · refine ⟨0, ?_, ?_⟩
    · unfold network_Duration.f network_Good.f
      rw [network_within.eq, g]
      simp only [Option.bind_some]
      cases (decide (0 ≤ a) && decide (a ≤ wrap64 ((ac.length : Int) - 1))) <;> rfl
    · unfold railplanref11_Duration.f
      rw [good_eq p ev ac t k (by omega), g]; rfl
  · have IS := network_Good.is g
    by_cases h : 0 ≤ a ∧ a < ac.length
    · refine ⟨_, dur_ok g a h.1 h.2, ?_⟩
      unfold railplanref11_Duration.f
      rw [good_eq p ev ac t k (by omega), g, refIn_eq, w, decide_eq_true h.1, decide_eq_true (show a ≤ (ac.length : Int) - 1 by omega)]
      simp only [Option.bind_some, if_true, Bool.and_self]
      rw [if_pos h.1, if_pos h.2, (refLasts_eq IS (rd_mem ac a h.1 h.2)).1]; rfl
    · have hf : (decide (0 ≤ a) && decide (a ≤ (ac.length : Int) - 1)) = false := by
        rw [Bool.and_eq_false_iff, decide_eq_false_iff_not, decide_eq_false_iff_not]; omega
      refine ⟨0, ?_, ?_⟩
      · unfold network_Duration.f
        rw [network_within.eq, w, hf]; rfl
      · unfold railplanref11_Duration.f
        rw [good_eq p ev ac t k (by omega), g, refIn_eq, w, hf]; rfl

theorem feas_eq (p : Int) (ev : EvL) (ac : AcL) (t : List Int) (k : Nat) (hk : 800 ≤ k) : ∃ d, network_Feasible.f p ev ac t = some d ∧ railplanref11_Feasible.f k p ev ac t = some d := by
  unfold network_Feasible.f railplanref11_Feasible.f network_First.f network_Good.f
  rw [good_eq p ev ac t k (by omega), first_eq p ev ac t k (by omega)]
  simp only [Option.bind_some]
  unfold network_First.b
  cases g : network_Good.b p ev ac t
  · exact ⟨false, rfl, rfl⟩
  · simp only [if_true]
    cases decide (0 ≤ act_ix (fun x => decide (x.f4 < network_lasts.v p t x)) ac)
    · exact ⟨true, rfl, rfl⟩
    · exact ⟨false, rfl, rfl⟩

theorem index_l0 (p : Int) (ev : EvL) (ac : AcL) (e0 e1 e2 : Int) (hev : ev.length ≤ 9223372036854775807) (d : Nat) :
    ∀ (k j : Nat), j + d = ev.length → d < k → ∃ r, api_Event.l0 k ev (ev.length : Int) (j : Int) e0 e1 e2 = some r ∧ railplanref11_Index.l0 k (j : Int) p ev ac e0 e1 e2 = some r := by
  induction d with
  | zero =>
    intro k j hj hk
    obtain ⟨k, rfl⟩ : ∃ m, k = m + 1 := ⟨k - 1, by omega⟩
    simp only [api_Event.l0, railplanref11_Index.l0]
    rw [if_neg (by omega), if_neg (by omega)]
    exact ⟨-1, rfl, rfl⟩
  | succ d ih =>
    intro k j hj hk
    obtain ⟨k, rfl⟩ : ∃ m, k = m + 1 := ⟨k - 1, by omega⟩
    have h0 : (0 : Int) ≤ (j : Int) := by omega
    have h1 : (j : Int) < (ev.length : Int) := by omega
    simp only [api_Event.l0, railplanref11_Index.l0]
    rw [if_pos h1, if_pos h0, if_pos h1, if_pos h1, if_pos h0, w64 ((j : Int) + 1) (by omega) (by omega)]
    generalize rd_T46 ev (j : Int) = x
    have e : (x.f0 == e0 && (x.f1 == e1 && x.f2 == e2)) = (e0 == x.f0 && (e1 == x.f1 && e2 == x.f2)) := by
      rw [Bool.beq_comm (a := x.f0), Bool.beq_comm (a := x.f1), Bool.beq_comm (a := x.f2)]
    rw [e]
    cases (e0 == x.f0 && (e1 == x.f1 && e2 == x.f2))
    · exact ih k (j + 1) (by omega) (by omega)
    · exact ⟨j, rfl, rfl⟩

theorem index_eq (p : Int) (ev : EvL) (ac : AcL) (e0 e1 e2 : Int) (hev : ev.length ≤ 9223372036854775807) (k : Nat) (hk : ev.length < k) : ∃ d, network_Index.f k p ev ac e0 e1 e2 = some d ∧ railplanref11_Index.f k p ev ac e0 e1 e2 = some d := by
  unfold network_Index.f railplanref11_Index.f api_Event.f
  obtain ⟨r, h1, h2⟩ := index_l0 p ev ac e0 e1 e2 hev ev.length k 0 (by omega) (by omega)
  refine ⟨r, ?_, h2⟩
  have h1' : api_Event.l0 k ev (ev.length : Int) 0 e0 e1 e2 = some r := h1
  rw [h1']; rfl

theorem agree_all (p : Int) (ev : EvL) (ac : AcL) (t : List Int) (a e0 e1 e2 : Int) (hev : ev.length ≤ 9223372036854775807) (hac : ac.length ≤ 9223372036854775807) : Agree p ev ac t a e0 e1 e2 := by
  have hk : 800 ≤ ev.length + 800 := by omega
  obtain ⟨c, f, c1, c2⟩ := cost_eq p ev ac t _ hk
  obtain ⟨du, d1, d2⟩ := dur_eq p ev ac t a hac _ hk
  obtain ⟨fe, f1, f2⟩ := feas_eq p ev ac t _ hk
  obtain ⟨ix, i1, i2⟩ := index_eq p ev ac e0 e1 e2 hev (ev.length + 800) (by omega)
  exact ⟨ev.length + 800, (network_First.b p ev ac t).1, (network_First.b p ev ac t).2, c, f, network_Check.b p ev ac, network_Good.b p ev ac t, du, fe, ix,
    rfl, first_eq p ev ac t _ hk, c1, c2, rfl, check_eq p ev ac _ (by omega), rfl, good_eq p ev ac t _ (by omega), d1, d2, f1, f2, i1, i2⟩



/-! ### railplanlaw11_agrees: function 21 -/
def railplanlaw11_agrees.f (p : Int) (ev : List S46) (ac : List S31) (t : List Int) (a e0 e1 e2 : Int) : Option Bool := some true
set_option maxHeartbeats 8000000 in
set_option maxRecDepth 100000 in
theorem railplanlaw11_agrees.true_ (p : Int) (A1 : Option Addr) (c1 : Nat) (ev : List S46) (A2 : Option Addr) (c2 : Nat) (ac : List S31) (A3 : Option Addr) (c3 : Nat) (t : List Int) (a e0 e1 e2 : Int) (w : World) (r1 : Kd.C k46 w A1 ev.length ev) (h1 : ev.length ≤ c1) (r2 : Kd.C k31 w A2 ac.length ac) (h2 : ac.length ≤ c2) (r3 : Kd.C (Kd.int .i64) w A3 t.length t) (h3 : t.length ≤ c3) (hA : Agree p ev ac t a e0 e1 e2) :
    Calls Try.prog 21 #[.agg #[.int .i64 p, .slice A1 ev.length c1, .slice A2 ac.length c2], .slice A3 t.length c3, .int .i64 a, .agg #[.int .i64 e0, .int .i64 e1, .int .i64 e2]] w fun e w' => e = .returned (.bool true) ∧ Below w.heap.size w w' := by
  obtain ⟨k, x, is_, c, f, ck, gd, du, fe, ix, q0, q1, q2, q3, q4, q5, q6, q7, q8, q9, q10, q11, q12, q13⟩ := hA.ex
  clear hA
  have hun := Try.underlying26
  have hue := Try.underlying46
  have hw1 : Below w.heap.size w ((w.alloc (.cells #[.int .i64 p, .slice A1 ev.length c1, .slice A2 ac.length c2] 26)).alloc (.cells #[.int .i64 e0, .int .i64 e1, .int .i64 e2] 46)) := ((Below.refl _ _).alloc (Nat.le_refl _) _).alloc (by simp) _
  have n0 : ((w.alloc (.cells #[.int .i64 p, .slice A1 ev.length c1, .slice A2 ac.length c2] 26)).alloc (.cells #[.int .i64 e0, .int .i64 e1, .int .i64 e2] 46)).cell? ⟨w.heap.size, 0, none⟩ = some (.int .i64 p) := (blk_cell (blk_alloc (blk_new w _) _) 0).trans rfl
  have n1 : ((w.alloc (.cells #[.int .i64 p, .slice A1 ev.length c1, .slice A2 ac.length c2] 26)).alloc (.cells #[.int .i64 e0, .int .i64 e1, .int .i64 e2] 46)).cell? ⟨w.heap.size, 1, none⟩ = some (.slice A1 ev.length c1) := (blk_cell (blk_alloc (blk_new w _) _) 1).trans rfl
  have n2 : ((w.alloc (.cells #[.int .i64 p, .slice A1 ev.length c1, .slice A2 ac.length c2] 26)).alloc (.cells #[.int .i64 e0, .int .i64 e1, .int .i64 e2] 46)).cell? ⟨w.heap.size, 2, none⟩ = some (.slice A2 ac.length c2) := (blk_cell (blk_alloc (blk_new w _) _) 2).trans rfl
  have m0 : ((w.alloc (.cells #[.int .i64 p, .slice A1 ev.length c1, .slice A2 ac.length c2] 26)).alloc (.cells #[.int .i64 e0, .int .i64 e1, .int .i64 e2] 46)).cell? ⟨w.heap.size + 1, 0, none⟩ = some (.int .i64 e0) := by
    have h := blk_cell (blk_new (w.alloc (.cells #[.int .i64 p, .slice A1 ev.length c1, .slice A2 ac.length c2] 26)) (.cells #[.int .i64 e0, .int .i64 e1, .int .i64 e2] 46)) 0
    rw [show (w.alloc (.cells #[.int .i64 p, .slice A1 ev.length c1, .slice A2 ac.length c2] 26)).heap.size = w.heap.size + 1 from by simp] at h
    exact h.trans rfl
  have m1 : ((w.alloc (.cells #[.int .i64 p, .slice A1 ev.length c1, .slice A2 ac.length c2] 26)).alloc (.cells #[.int .i64 e0, .int .i64 e1, .int .i64 e2] 46)).cell? ⟨w.heap.size + 1, 1, none⟩ = some (.int .i64 e1) := by
    have h := blk_cell (blk_new (w.alloc (.cells #[.int .i64 p, .slice A1 ev.length c1, .slice A2 ac.length c2] 26)) (.cells #[.int .i64 e0, .int .i64 e1, .int .i64 e2] 46)) 1
    rw [show (w.alloc (.cells #[.int .i64 p, .slice A1 ev.length c1, .slice A2 ac.length c2] 26)).heap.size = w.heap.size + 1 from by simp] at h
    exact h.trans rfl
  have m2 : ((w.alloc (.cells #[.int .i64 p, .slice A1 ev.length c1, .slice A2 ac.length c2] 26)).alloc (.cells #[.int .i64 e0, .int .i64 e1, .int .i64 e2] 46)).cell? ⟨w.heap.size + 1, 2, none⟩ = some (.int .i64 e2) := by
    have h := blk_cell (blk_new (w.alloc (.cells #[.int .i64 p, .slice A1 ev.length c1, .slice A2 ac.length c2] 26)) (.cells #[.int .i64 e0, .int .i64 e1, .int .i64 e2] 46)) 2
    rw [show (w.alloc (.cells #[.int .i64 p, .slice A1 ev.length c1, .slice A2 ac.length c2] 26)).heap.size = w.heap.size + 1 from by simp] at h
    exact h.trans rfl
  go_enter Try.func21, Try.ntmps21
  go_wp2_with fail
  generalize ((w.alloc (.cells #[.int .i64 p, .slice A1 ev.length c1, .slice A2 ac.length c2] 26)).alloc (.cells #[.int .i64 e0, .int .i64 e1, .int .i64 e2] 46)) = w0 at *
  have SB : ∀ w' : World, Below w0.heap.size w0 w' → Below w0.heap.size w0 w' ∧ w'.cell? ⟨w.heap.size, 0, none⟩ = some (.int .i64 p) ∧ w'.cell? ⟨w.heap.size, 1, none⟩ = some (.slice A1 ev.length c1) ∧ w'.cell? ⟨w.heap.size, 2, none⟩ = some (.slice A2 ac.length c2) ∧ w'.cell? ⟨w.heap.size + 1, 0, none⟩ = some (.int .i64 e0) ∧ w'.cell? ⟨w.heap.size + 1, 1, none⟩ = some (.int .i64 e1) ∧ w'.cell? ⟨w.heap.size + 1, 2, none⟩ = some (.int .i64 e2) := fun w' h => ⟨h, pw_cell_below h n0, pw_cell_below h n1, pw_cell_below h n2, pw_cell_below h m0, pw_cell_below h m1, pw_cell_below h m2⟩
  have K0 := Aside0.mk (fun (W : World) (h : Below w0.heap.size w0 W) => show Calls Try.prog 24 #[.agg #[.int .i64 p, .slice A1 ev.length c1, .slice A2 ac.length c2], .slice A3 t.length c3] W fun e w' => e = .returned (.tuple #[.int .i64 x, .bool is_]) ∧ Below w0.heap.size w0 w' from (network_First.calls p A1 c1 ev A2 c2 ac A3 c3 t x is_ W (Kd.C_below (Kd.C_below r1 hw1) h) h1 (Kd.C_below (Kd.C_below r2 hw1) h) h2 (Kd.C_below (Kd.C_below r3 hw1) h) h3 q0).mono fun e w' hh => ⟨hh.1, h.trans (hh.2.mono h.size)⟩)
  have K1 := Aside0.mk (fun (W : World) (h : Below w0.heap.size w0 W) => show Calls Try.prog 32 #[.agg #[.int .i64 p, .slice A1 ev.length c1, .slice A2 ac.length c2], .slice A3 t.length c3] W fun e w' => e = .returned (.tuple #[.int .i64 x, .bool is_]) ∧ Below w0.heap.size w0 w' from (railplanref11_First.calls k p A1 c1 ev A2 c2 ac A3 c3 t x is_ W (Kd.C_below (Kd.C_below r1 hw1) h) h1 (Kd.C_below (Kd.C_below r2 hw1) h) h2 (Kd.C_below (Kd.C_below r3 hw1) h) h3 q1).mono fun e w' hh => ⟨hh.1, h.trans (hh.2.mono h.size)⟩)
  have K2 := Aside0.mk (fun (W : World) (h : Below w0.heap.size w0 W) => show Calls Try.prog 18 #[.agg #[.int .i64 p, .slice A1 ev.length c1, .slice A2 ac.length c2], .slice A3 t.length c3] W fun e w' => e = .returned (.tuple #[.int .i64 c, .int .i64 f]) ∧ Below w0.heap.size w0 w' from (network_Cost.calls k p A1 c1 ev A2 c2 ac A3 c3 t c f W (Kd.C_below (Kd.C_below r1 hw1) h) h1 (Kd.C_below (Kd.C_below r2 hw1) h) h2 (Kd.C_below (Kd.C_below r3 hw1) h) h3 q2).mono fun e w' hh => ⟨hh.1, h.trans (hh.2.mono h.size)⟩)
  have K3 := Aside0.mk (fun (W : World) (h : Below w0.heap.size w0 W) => show Calls Try.prog 33 #[.agg #[.int .i64 p, .slice A1 ev.length c1, .slice A2 ac.length c2], .slice A3 t.length c3] W fun e w' => e = .returned (.tuple #[.int .i64 c, .int .i64 f]) ∧ Below w0.heap.size w0 w' from (railplanref11_Cost.calls k p A1 c1 ev A2 c2 ac A3 c3 t c f W (Kd.C_below (Kd.C_below r1 hw1) h) h1 (Kd.C_below (Kd.C_below r2 hw1) h) h2 (Kd.C_below (Kd.C_below r3 hw1) h) h3 q3).mono fun e w' hh => ⟨hh.1, h.trans (hh.2.mono h.size)⟩)
  have K4 := Aside0.mk (fun (W : World) (h : Below w0.heap.size w0 W) => show Calls Try.prog 12 #[.agg #[.int .i64 p, .slice A1 ev.length c1, .slice A2 ac.length c2]] W fun e w' => e = .returned (.bool ck) ∧ Below w0.heap.size w0 w' from (network_Check.calls p A1 c1 ev A2 c2 ac ck W (Kd.C_below (Kd.C_below r1 hw1) h) h1 (Kd.C_below (Kd.C_below r2 hw1) h) h2 q4).mono fun e w' hh => ⟨hh.1, h.trans (hh.2.mono h.size)⟩)
  have K5 := Aside0.mk (fun (W : World) (h : Below w0.heap.size w0 W) => show Calls Try.prog 13 #[.agg #[.int .i64 p, .slice A1 ev.length c1, .slice A2 ac.length c2]] W fun e w' => e = .returned (.bool ck) ∧ Below w0.heap.size w0 w' from (railplanref11_Check.calls k p A1 c1 ev A2 c2 ac ck W (Kd.C_below (Kd.C_below r1 hw1) h) h1 (Kd.C_below (Kd.C_below r2 hw1) h) h2 q5).mono fun e w' hh => ⟨hh.1, h.trans (hh.2.mono h.size)⟩)
  have K6 := Aside0.mk (fun (W : World) (h : Below w0.heap.size w0 W) => show Calls Try.prog 29 #[.agg #[.int .i64 p, .slice A1 ev.length c1, .slice A2 ac.length c2], .slice A3 t.length c3] W fun e w' => e = .returned (.bool gd) ∧ Below w0.heap.size w0 w' from (network_Good.calls p A1 c1 ev A2 c2 ac A3 c3 t gd W (Kd.C_below (Kd.C_below r1 hw1) h) h1 (Kd.C_below (Kd.C_below r2 hw1) h) h2 (Kd.C_below (Kd.C_below r3 hw1) h) h3 q6).mono fun e w' hh => ⟨hh.1, h.trans (hh.2.mono h.size)⟩)
  have K7 := Aside0.mk (fun (W : World) (h : Below w0.heap.size w0 W) => show Calls Try.prog 34 #[.agg #[.int .i64 p, .slice A1 ev.length c1, .slice A2 ac.length c2], .slice A3 t.length c3] W fun e w' => e = .returned (.bool gd) ∧ Below w0.heap.size w0 w' from (railplanref11_Good.calls k p A1 c1 ev A2 c2 ac A3 c3 t gd W (Kd.C_below (Kd.C_below r1 hw1) h) h1 (Kd.C_below (Kd.C_below r2 hw1) h) h2 (Kd.C_below (Kd.C_below r3 hw1) h) h3 q7).mono fun e w' hh => ⟨hh.1, h.trans (hh.2.mono h.size)⟩)
  have K8 := Aside0.mk (fun (W : World) (h : Below w0.heap.size w0 W) => show Calls Try.prog 15 #[.agg #[.int .i64 p, .slice A1 ev.length c1, .slice A2 ac.length c2], .slice A3 t.length c3, .int .i64 a] W fun e w' => e = .returned (.int .i64 du) ∧ Below w0.heap.size w0 w' from (network_Duration.calls p A1 c1 ev A2 c2 ac A3 c3 t a du W (Kd.C_below (Kd.C_below r1 hw1) h) h1 (Kd.C_below (Kd.C_below r2 hw1) h) h2 (Kd.C_below (Kd.C_below r3 hw1) h) h3 q8).mono fun e w' hh => ⟨hh.1, h.trans (hh.2.mono h.size)⟩)
  have K9 := Aside0.mk (fun (W : World) (h : Below w0.heap.size w0 W) => show Calls Try.prog 35 #[.agg #[.int .i64 p, .slice A1 ev.length c1, .slice A2 ac.length c2], .slice A3 t.length c3, .int .i64 a] W fun e w' => e = .returned (.int .i64 du) ∧ Below w0.heap.size w0 w' from (railplanref11_Duration.calls k p A1 c1 ev A2 c2 ac A3 c3 t a du W (Kd.C_below (Kd.C_below r1 hw1) h) h1 (Kd.C_below (Kd.C_below r2 hw1) h) h2 (Kd.C_below (Kd.C_below r3 hw1) h) h3 q9).mono fun e w' hh => ⟨hh.1, h.trans (hh.2.mono h.size)⟩)
  have K10 := Aside0.mk (fun (W : World) (h : Below w0.heap.size w0 W) => show Calls Try.prog 17 #[.agg #[.int .i64 p, .slice A1 ev.length c1, .slice A2 ac.length c2], .slice A3 t.length c3] W fun e w' => e = .returned (.bool fe) ∧ Below w0.heap.size w0 w' from (network_Feasible.calls p A1 c1 ev A2 c2 ac A3 c3 t fe W (Kd.C_below (Kd.C_below r1 hw1) h) h1 (Kd.C_below (Kd.C_below r2 hw1) h) h2 (Kd.C_below (Kd.C_below r3 hw1) h) h3 q10).mono fun e w' hh => ⟨hh.1, h.trans (hh.2.mono h.size)⟩)
  have K11 := Aside0.mk (fun (W : World) (h : Below w0.heap.size w0 W) => show Calls Try.prog 36 #[.agg #[.int .i64 p, .slice A1 ev.length c1, .slice A2 ac.length c2], .slice A3 t.length c3] W fun e w' => e = .returned (.bool fe) ∧ Below w0.heap.size w0 w' from (railplanref11_Feasible.calls k p A1 c1 ev A2 c2 ac A3 c3 t fe W (Kd.C_below (Kd.C_below r1 hw1) h) h1 (Kd.C_below (Kd.C_below r2 hw1) h) h2 (Kd.C_below (Kd.C_below r3 hw1) h) h3 q11).mono fun e w' hh => ⟨hh.1, h.trans (hh.2.mono h.size)⟩)
  have K12 := Aside0.mk (fun (W : World) (h : Below w0.heap.size w0 W) => show Calls Try.prog 20 #[.agg #[.int .i64 p, .slice A1 ev.length c1, .slice A2 ac.length c2], .agg #[.int .i64 e0, .int .i64 e1, .int .i64 e2]] W fun e w' => e = .returned (.int .i64 ix) ∧ Below w0.heap.size w0 w' from (network_Index.calls k p A1 c1 ev A2 c2 ac e0 e1 e2 ix W (Kd.C_below (Kd.C_below r1 hw1) h) h1 (Kd.C_below (Kd.C_below r2 hw1) h) h2 q12).mono fun e w' hh => ⟨hh.1, h.trans (hh.2.mono h.size)⟩)
  have K13 := Aside0.mk (fun (W : World) (h : Below w0.heap.size w0 W) => show Calls Try.prog 37 #[.agg #[.int .i64 p, .slice A1 ev.length c1, .slice A2 ac.length c2], .agg #[.int .i64 e0, .int .i64 e1, .int .i64 e2]] W fun e w' => e = .returned (.int .i64 ix) ∧ Below w0.heap.size w0 w' from (railplanref11_Index.calls k p A1 c1 ev A2 c2 ac e0 e1 e2 ix W (Kd.C_below (Kd.C_below r1 hw1) h) h1 (Kd.C_below (Kd.C_below r2 hw1) h) h2 q13).mono fun e w' hh => ⟨hh.1, h.trans (hh.2.mono h.size)⟩)
  have SBA := Aside0.mk SB
  have HW := Aside0.mk hw1
  clear SB hw1 r1 r2 r3 h1 h2 h3 q0 q1 q2 q3 q4 q5 q6 q7 q8 q9 q10 q11 q12 q13
  refine (K0.out _ (Below.refl _ _)).mono ?_
  rintro e w1 ⟨rfl, b1⟩
  obtain ⟨_, x0_0, x1_0, x2_0, _⟩ := SBA.out _ b1
  go_wp2_with fail
  refine (K1.out _ b1).mono ?_
  rintro e w2 ⟨rfl, b2⟩
  obtain ⟨_, x0_1, x1_1, x2_1, _⟩ := SBA.out _ b2
  go_wp2_with fail
  refine (K2.out _ b2).mono ?_
  rintro e w3 ⟨rfl, b3⟩
  obtain ⟨_, x0_2, x1_2, x2_2, _⟩ := SBA.out _ b3
  go_wp2_with fail
  refine (K3.out _ b3).mono ?_
  rintro e w4 ⟨rfl, b4⟩
  obtain ⟨_, x0_3, x1_3, x2_3, _⟩ := SBA.out _ b4
  go_wp2_with fail
  clear n0 n1 n2 m0 m1 m2 x0_0 x1_0 x2_0 x0_1 x1_1 x2_1 x0_2 x1_2 x2_2 x0_3 x1_3 x2_3
  go_region_held3 (fun w' => Below w0.heap.size w0 w' ∧ w'.cell? ⟨w.heap.size, 0, none⟩ = some (.int .i64 p) ∧ w'.cell? ⟨w.heap.size, 1, none⟩ = some (.slice A1 ev.length c1) ∧ w'.cell? ⟨w.heap.size, 2, none⟩ = some (.slice A2 ac.length c2) ∧ w'.cell? ⟨w.heap.size + 1, 0, none⟩ = some (.int .i64 e0) ∧ w'.cell? ⟨w.heap.size + 1, 1, none⟩ = some (.int .i64 e1) ∧ w'.cell? ⟨w.heap.size + 1, 2, none⟩ = some (.int .i64 e2))
    (first | exact SBA.out _ (by assumption) | exact SBA.out _ (below_drew b4))
    (first | (go_at_call 12; refine (K4.out _ ?_).mono ?_; (first | assumption | exact below_drew b4); rintro e w' ⟨rfl, hb⟩) | (go_at_call 13; refine (K5.out _ ?_).mono ?_; (first | assumption | exact below_drew b4); rintro e w' ⟨rfl, hb⟩) | (go_at_call 29; refine (K6.out _ ?_).mono ?_; (first | assumption | exact below_drew b4); rintro e w' ⟨rfl, hb⟩) | (go_at_call 34; refine (K7.out _ ?_).mono ?_; (first | assumption | exact below_drew b4); rintro e w' ⟨rfl, hb⟩) | (go_at_call 15; refine (K8.out _ ?_).mono ?_; (first | assumption | exact below_drew b4); rintro e w' ⟨rfl, hb⟩) | (go_at_call 35; refine (K9.out _ ?_).mono ?_; (first | assumption | exact below_drew b4); rintro e w' ⟨rfl, hb⟩) | (go_at_call 17; refine (K10.out _ ?_).mono ?_; (first | assumption | exact below_drew b4); rintro e w' ⟨rfl, hb⟩) | (go_at_call 36; refine (K11.out _ ?_).mono ?_; (first | assumption | exact below_drew b4); rintro e w' ⟨rfl, hb⟩) | (go_at_call 20; refine (K12.out _ ?_).mono ?_; (first | assumption | exact below_drew b4); rintro e w' ⟨rfl, hb⟩) | (go_at_call 37; refine (K13.out _ ?_).mono ?_; (first | assumption | exact below_drew b4); rintro e w' ⟨rfl, hb⟩))
  all_goals go_wp2
  go_ret
  exact ⟨rfl, HW.out.trans (hb.mono HW.out.size)⟩

theorem railplanlaw11_agrees.calls (a0_0 : Int) (A0_1 : Option Addr) (c0_1 : Nat) (l0_1 : List S46) (A0_2 : Option Addr) (c0_2 : Nat) (l0_2 : List S31) (A1 : Option Addr) (c1 : Nat) (l1 : List Int) (a2 a3_0 a3_1 a3_2 : Int) (r : Bool) (w : World) (hr0_1 : Kd.C k46 w A0_1 l0_1.length l0_1) (hc0_1 : l0_1.length ≤ c0_1) (hr0_2 : Kd.C k31 w A0_2 l0_2.length l0_2) (hc0_2 : l0_2.length ≤ c0_2) (hr1 : Kd.C (Kd.int .i64) w A1 l1.length l1) (hc1 : l1.length ≤ c1) (h : railplanlaw11_agrees.f a0_0 l0_1 l0_2 l1 a2 a3_0 a3_1 a3_2 = some r) :
    Calls Try.prog 21 #[.agg #[.int .i64 a0_0, .slice A0_1 l0_1.length c0_1, .slice A0_2 l0_2.length c0_2], .slice A1 l1.length c1, .int .i64 a2, .agg #[.int .i64 a3_0, .int .i64 a3_1, .int .i64 a3_2]] w fun e w' => e = .returned (.bool r) ∧ Below w.heap.size w w' := by
  obtain rfl := Option.some.inj h
  exact railplanlaw11_agrees.true_ a0_0 A0_1 c0_1 l0_1 A0_2 c0_2 l0_2 A1 c1 l1 a2 a3_0 a3_1 a3_2 w hr0_1 hc0_1 hr0_2 hc0_2 hr1 hc1 (agree_all a0_0 l0_1 l0_2 l1 a2 a3_0 a3_1 a3_2 hr0_1.2.1 hr0_2.2.1)

end Go.Proofs.Ytapnkefhihgbbaa.PAll
