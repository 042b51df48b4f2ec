/- Plain facts about conflicts, and OccupancyFreeMeansOne. No condition but those stated. -/
import Derived.Test.YtjbemmngnigaiaaOccA
namespace Go.Proofs.Ytjbemmngnigaiaa.Pure
set_option linter.unusedVariables false
set_option linter.unusedSimpArgs false
open Go.RowKit Go.Proofs.Ytjbemmngnigaiaa.PAll Go.Proofs.YtjbemmngnigaiaaW.PrintWords Go.Proofs.YtjbemmngnigaiaaW.PrintLast
theorem tdiv_floor (x t : Int) (ht : 0 < t) : Int.tdiv x t - (if Int.tmod x t < 0 then 1 else 0) = x / t := by
  have e1 := Int.tdiv_eq_ediv (a := x) (b := t)
  have e2 := Int.tmod_eq_emod (a := x) (b := t)
  have q0 := Int.emod_nonneg x (show t ≠ 0 by omega)
  have q1 := Int.emod_lt_of_pos x ht
  have hn : (t.natAbs : Int) = t := by omega
  have hs : t.sign = 1 := Int.sign_eq_one_of_pos ht
  by_cases h : 0 ≤ x ∨ t ∣ x
  · rw [if_pos h] at e1 e2
    rw [if_neg (by omega)]
    omega
  · rw [if_neg h] at e1 e2
    rw [hn] at e2
    rw [hs] at e1
    have hpos : x % t ≠ 0 := fun hz => h (.inr (Int.dvd_of_emod_eq_zero hz))
    rw [if_pos (by omega)]
    omega
theorem fdiv (x t : Int) (ht : 2 ≤ t) (h0 : -1000 ≤ x) (h1 : x ≤ 1000) : arith_FloorDiv.f x t = some (x / t, 0) := by
  have e := tdiv_floor x t (by omega)
  have b0 : -1000 ≤ x / t := by
    have := Int.ediv_mul_le x (show t ≠ 0 by omega)
    have h2 := Int.lt_ediv_add_one_mul_self x (show 0 < t by omega)
    rcases Int.lt_or_le (x / t) (-1000) with h | h
    · have : (x / t + 1) * t ≤ (-1000) * t := Int.mul_le_mul_of_nonneg_right (by omega) (by omega)
      omega
    · exact h
  have b1 : x / t ≤ 1000 := by
    have h2 := Int.ediv_mul_le x (show t ≠ 0 by omega)
    rcases Int.lt_or_le 1000 (x / t) with h | h
    · have : 1001 * t ≤ (x / t) * t := Int.mul_le_mul_of_nonneg_right (by omega) (by omega)
      omega
    · exact h
  unfold arith_FloorDiv.f
  rw [if_neg (by omega), if_neg (by omega)]
  by_cases hm : Int.tmod x t < 0
  · rw [if_pos hm] at e ⊢
    rw [w64 (Int.tdiv x t) (by omega) (by omega), w64 _ (by omega) (by omega), e]
  · rw [if_neg hm] at e ⊢
    rw [w64 (Int.tdiv x t) (by omega) (by omega)]
    rw [show Int.tdiv x t = x / t by omega]
theorem cdiv (x t : Int) (ht : 2 ≤ t) (h0 : -1000 ≤ x) (h1 : x ≤ 1000) : ∃ c, arith_CeilDiv.f x t = some (c, 0) ∧ -1001 ≤ c ∧ c ≤ 1001 ∧ ∀ k : Int, k * t < x → k < c := by
  have e1 := Int.tdiv_eq_ediv (a := x) (b := t)
  have e2 := Int.tmod_eq_emod (a := x) (b := t)
  have q0 := Int.emod_nonneg x (show t ≠ 0 by omega)
  have q1 := Int.emod_lt_of_pos x (show 0 < t by omega)
  have e := tdiv_floor x t (by omega)
  have ed := Int.mul_ediv_add_emod x t
  obtain ⟨q, hq⟩ : ∃ q, q = x / t := ⟨_, rfl⟩
  rw [← hq] at e ed e1
  have b0 : -1000 ≤ q := by
    rcases Int.lt_or_le q (-1000) with h | h
    · have : t * q ≤ t * (-1001) := Int.mul_le_mul_of_nonneg_left (by omega) (by omega)
      omega
    · exact h
  have b1 : q ≤ 1000 := by
    rcases Int.lt_or_le 1000 q with h | h
    · have : t * 1001 ≤ t * q := Int.mul_le_mul_of_nonneg_left (by omega) (by omega)
      omega
    · exact h
  have hk : ∀ k : Int, k * t < x → k ≤ q := by
    intro k hk
    rcases Int.lt_or_le q k with h | h
    · have : t * (q + 1) ≤ t * k := Int.mul_le_mul_of_nonneg_left (by omega) (by omega)
      rw [Int.mul_add, Int.mul_comm t k] at this
      omega
    · exact h
  have hn : (t.natAbs : Int) = t := by omega
  have hs : t.sign = 1 := Int.sign_eq_one_of_pos (by omega)
  unfold arith_CeilDiv.f
  rw [if_neg (by omega), if_neg (by omega)]
  by_cases hd : 0 ≤ x ∨ t ∣ x
  · rw [if_pos hd] at e1 e2
    by_cases hm : Int.tmod x t > 0
    · rw [if_pos hm, w64 (Int.tdiv x t) (by omega) (by omega), w64 _ (by omega) (by omega)]
      exact ⟨_, rfl, by omega, by omega, fun k h => by have := hk k h; omega⟩
    · rw [if_neg hm, w64 (Int.tdiv x t) (by omega) (by omega)]
      refine ⟨_, rfl, by omega, by omega, fun k h => ?_⟩
      have h1 := hk k h
      have h2 : x % t = 0 := by omega
      rcases Int.lt_or_le k q with h3 | h3
      · omega
      · have : k = q := by omega
        rw [this, Int.mul_comm] at h
        omega
  · rw [if_neg hd] at e1 e2
    rw [hn] at e2
    rw [hs] at e1
    rw [if_neg (by omega), w64 (Int.tdiv x t) (by omega) (by omega)]
    exact ⟨_, rfl, by omega, by omega, fun k h => by have := hk k h; omega⟩
theorem cf_l0 (lo hi f0 f1 f2 f3 f4 : Int) (h0 : -10000 ≤ lo) (h1 : lo ≤ 10000) : ∀ (d : Nat) (x : Int), x + d = lo + 2 → lo ≤ x → ∃ b, Ev (fun k => occupancy_conflict.l0 k lo hi x f0 f1 f2 f3 f4) b := by
  intro d
  induction d with
  | zero =>
    intro x hx hlo
    have hj : ∀ v, ∃ b, Ev (fun k => occupancy_conflict.j1 k lo hi x v f0 f1 f2 f3 f4) b := by
      intro v
      cases v with
      | true => exact ⟨true, Ev.step (fun k => by simp only [occupancy_conflict.j1]; rw [if_pos trivial]) (Ev.now _)⟩
      | false => exact ⟨false, Ev.step (fun k => by simp only [occupancy_conflict.j1]; rw [if_neg (by decide), w64 _ (by omega) (by omega), if_pos (show x > lo + 1 by omega)]; simp) (Ev.now _)⟩
    by_cases hh : x ≤ hi
    · by_cases hz : x = 0
      · obtain ⟨b, hb⟩ := hj false
        exact ⟨b, Ev.step (fun k => by simp only [occupancy_conflict.l0]; rw [if_pos hh, if_pos hz]) hb⟩
      · by_cases h4 : f4 = 0
        · obtain ⟨b, hb⟩ := hj true
          exact ⟨b, Ev.step (fun k => by simp only [occupancy_conflict.l0]; rw [if_pos hh, if_neg hz, if_pos h4]) hb⟩
        · obtain ⟨b, hb⟩ := hj ((Int.tmod x f4) != 0)
          exact ⟨b, Ev.step (fun k => by simp only [occupancy_conflict.l0]; rw [if_pos hh, if_neg hz, if_neg h4]) hb⟩
    · exact ⟨false, Ev.step (fun k => by simp only [occupancy_conflict.l0]; rw [if_neg hh]) (Ev.now _)⟩
  | succ d ih =>
    intro x hx hlo
    have hj : ∀ v, ∃ b, Ev (fun k => occupancy_conflict.j1 k lo hi x v f0 f1 f2 f3 f4) b := by
      intro v
      cases v with
      | true => exact ⟨true, Ev.step (fun k => by simp only [occupancy_conflict.j1]; rw [if_pos trivial]) (Ev.now _)⟩
      | false =>
        by_cases h4 : f4 = 1
        · exact ⟨false, Ev.step (fun k => by simp only [occupancy_conflict.j1]; rw [if_neg (by decide), if_pos h4]) (Ev.now _)⟩
        · obtain ⟨b, hb⟩ := ih (x + 1) (by omega) (by omega)
          exact ⟨b, Ev.step (fun k => by simp only [occupancy_conflict.j1]; rw [if_neg (by decide), if_neg h4, w64 _ (by omega) (by omega), if_neg (show ¬ x > lo + 1 by omega), w64 _ (by omega) (by omega)]) hb⟩
    by_cases hh : x ≤ hi
    · by_cases hz : x = 0
      · obtain ⟨b, hb⟩ := hj false
        exact ⟨b, Ev.step (fun k => by simp only [occupancy_conflict.l0]; rw [if_pos hh, if_pos hz]) hb⟩
      · by_cases h4 : f4 = 0
        · obtain ⟨b, hb⟩ := hj true
          exact ⟨b, Ev.step (fun k => by simp only [occupancy_conflict.l0]; rw [if_pos hh, if_neg hz, if_pos h4]) hb⟩
        · obtain ⟨b, hb⟩ := hj ((Int.tmod x f4) != 0)
          exact ⟨b, Ev.step (fun k => by simp only [occupancy_conflict.l0]; rw [if_pos hh, if_neg hz, if_neg h4]) hb⟩
    · exact ⟨false, Ev.step (fun k => by simp only [occupancy_conflict.l0]; rw [if_neg hh]) (Ev.now _)⟩
theorem hit_ev (t : Int) (h1 : 2 ≤ t) (h2 : t ≤ 41) (a b : SU) (ha : okU a) (hb : okU b) : ∃ v, Ev (fun k => hit k t a b) v ∧ (a.f0 = b.f0 → a.f1 ≠ b.f1 → (∃ k : Int, a.f2 - b.f2 - b.f3 < k * t ∧ k * t < a.f2 + a.f3 - b.f2) → v = true) := by
  obtain ⟨_, _, ⟨a20, a21⟩, ⟨a30, a31⟩, _⟩ := ha
  obtain ⟨_, _, ⟨b20, b21⟩, ⟨b30, b31⟩, _⟩ := hb
  unfold hit
  by_cases he : a.f0 = b.f0
  · obtain ⟨c, hc, c0, c1, hck⟩ := cdiv (a.f2 + a.f3 - b.f2) t h1 (by omega) (by omega)
    have hf := fdiv (a.f2 - b.f2 - b.f3) t h1 (by omega) (by omega)
    have hfk : ∀ k : Int, a.f2 - b.f2 - b.f3 < k * t → (a.f2 - b.f2 - b.f3) / t < k := fun k h => Int.ediv_lt_of_lt_mul (by omega) h
    obtain ⟨q, hq⟩ : ∃ q, q = (a.f2 - b.f2 - b.f3) / t := ⟨_, rfl⟩
    rw [← hq] at hf hfk
    have q0 : -2000 ≤ q := by
      rcases Int.lt_or_le q (-2000) with h | h
      · have e := Int.mul_ediv_add_emod (a.f2 - b.f2 - b.f3) t
        have e1 := Int.emod_lt_of_pos (a.f2 - b.f2 - b.f3) (show 0 < t by omega)
        rw [← hq] at e
        have : t * q ≤ t * (-2001) := Int.mul_le_mul_of_nonneg_left (by omega) (by omega)
        omega
      · exact h
    have q1 : q ≤ 2000 := by
      rcases Int.lt_or_le 2000 q with h | h
      · have e := Int.mul_ediv_add_emod (a.f2 - b.f2 - b.f3) t
        have e1 := Int.emod_nonneg (a.f2 - b.f2 - b.f3) (show t ≠ 0 by omega)
        rw [← hq] at e
        have : t * 2001 ≤ t * q := Int.mul_le_mul_of_nonneg_left (by omega) (by omega)
        omega
      · exact h
    have hcf : ∀ k, occupancy_conflict.f k t a.f0 a.f1 a.f2 a.f3 a.f4 b.f0 b.f1 b.f2 b.f3 b.f4 = if a.f1 = b.f1 then occupancy_conflict.l0 k (q + 1) (c - 1) (q + 1) a.f0 a.f1 a.f2 a.f3 a.f4 else some (decide (q + 1 ≤ c - 1)) := by
      intro k
      unfold occupancy_conflict.f
      rw [w64 (a.f2 - b.f2) (by omega) (by omega), w64 _ (by omega) (by omega), hf, Option.bind_some, w64 (a.f2 + a.f3) (by omega) (by omega), w64 (a.f2 + a.f3 - b.f2) (by omega) (by omega), hc, Option.bind_some, w64 (q + 1) (by omega) (by omega), w64 (c - 1) (by omega) (by omega)]
    by_cases ht : a.f1 = b.f1
    · obtain ⟨v, hv⟩ := cf_l0 (q + 1) (c - 1) a.f0 a.f1 a.f2 a.f3 a.f4 (by omega) (by omega) 2 (q + 1) (by omega) (Int.le_refl _)
      exact ⟨v, Ev.congr (fun k => by rw [if_pos he, hcf, if_pos ht]) hv, fun _ h => absurd ht h⟩
    · refine ⟨decide (q + 1 ≤ c - 1), Ev.congr (fun k => by rw [if_pos he, hcf, if_neg ht]) (Ev.now _), fun _ _ hk => ?_⟩
      obtain ⟨k, hk1, hk2⟩ := hk
      have := hfk k hk1
      have := hck k hk2
      exact decide_eq_true (by omega)
  · exact ⟨false, Ev.congr (fun k => by rw [if_neg he]) (Ev.now _), fun h => absurd h he⟩
theorem memU (v : List SU) (i : Nat) (hi : i < v.length) : rd_T23 v i ∈ v := by
  rw [show rd_T23 v i = v.getD i z23 from rfl, List.getD_eq_getElem?_getD, List.getElem?_eq_getElem hi]
  exact List.getElem_mem hi
theorem cflIn_ev (t : Int) (h1 : 2 ≤ t) (h2 : t ≤ 41) (l : List SU) (hok : ∀ u ∈ l, okU u) (i : Nat) (hi : i < l.length) : ∀ (d j : Nat) (acc : List (Int × Int)), j + d = l.length → acc.length + d ≤ 8000 →
    ∃ r, Ev (fun k => cflIn k t l i d j acc) r ∧ acc.length ≤ r.length ∧ r.length ≤ acc.length + d ∧ (r.length = acc.length → ∀ j' : Nat, j ≤ j' → j' < l.length → Ev (fun k => hit k t (rd_T23 l i) (rd_T23 l j')) false) := by
  intro d
  induction d with
  | zero => intro j acc hj ha; exact ⟨acc, Ev.congr (fun k => by simp only [cflIn]) (Ev.now _), Nat.le_refl _, Nat.le_refl _, fun _ j' a b => by omega⟩
  | succ d ih =>
    intro j acc hj ha
    obtain ⟨v, hv, _⟩ := hit_ev t h1 h2 _ _ (hok _ (memU l i hi)) (hok _ (memU l j (by omega)))
    cases v with
    | true =>
      obtain ⟨r, hr, q1, q2, q3⟩ := ih (j + 1) (acc ++ [((i : Int), (j : Int))]) (by omega) (by rw [List.length_append, List.length_singleton]; omega)
      rw [List.length_append, List.length_singleton] at q1 q2
      refine ⟨r, Ev.congr (f := fun k => (hit k t (rd_T23 l i) (rd_T23 l j)).bind fun b => if b = true then (if acc.length < 8796093022000 then cflIn k t l i d (j + 1) (acc ++ [((i : Int), (j : Int))]) else none) else cflIn k t l i d (j + 1) acc) (fun k => by simp only [cflIn]) (Ev.bind hv (Ev.congr (fun k => by rw [if_pos rfl, if_pos (by omega)]) hr)), by omega, by omega, fun h => by omega⟩
    | false =>
      obtain ⟨r, hr, q1, q2, q3⟩ := ih (j + 1) acc (by omega) (by omega)
      refine ⟨r, Ev.congr (f := fun k => (hit k t (rd_T23 l i) (rd_T23 l j)).bind fun b => if b = true then (if acc.length < 8796093022000 then cflIn k t l i d (j + 1) (acc ++ [((i : Int), (j : Int))]) else none) else cflIn k t l i d (j + 1) acc) (fun k => by simp only [cflIn]) (Ev.bind hv (Ev.congr (fun k => by rw [if_neg (by decide)]) hr)), by omega, by omega, fun h j' p1 p2 => ?_⟩
      by_cases e : j' = j
      · rw [e]; exact hv
      · exact q3 h j' (by omega) p2
theorem cflOut_ev (t : Int) (h1 : 2 ≤ t) (h2 : t ≤ 41) (l : List SU) (hl : l.length ≤ 7) (hok : ∀ u ∈ l, okU u) : ∀ (d i : Nat) (acc : List (Int × Int)), i + d = l.length → acc.length + d * 7 ≤ 1000 →
    ∃ r, Ev (fun k => cflOut k t l d i acc) r ∧ acc.length ≤ r.length ∧ (r.length = acc.length → ∀ i' j' : Nat, i ≤ i' → i' ≤ j' → j' < l.length → Ev (fun k => hit k t (rd_T23 l i') (rd_T23 l j')) false) := by
  intro d
  induction d with
  | zero => intro i acc hi ha; exact ⟨acc, Ev.congr (fun k => by simp only [cflOut]) (Ev.now _), Nat.le_refl _, fun _ i' j' a b c => by omega⟩
  | succ d ih =>
    intro i acc hi ha
    obtain ⟨r1, hr1, p1, p2, p3⟩ := cflIn_ev t h1 h2 l hok i (by omega) (l.length - i) i acc (by omega) (by omega)
    obtain ⟨r, hr, q1, q3⟩ := ih (i + 1) r1 (by omega) (by omega)
    refine ⟨r, Ev.congr (f := fun k => (cflIn k t l i (l.length - i) i acc).bind fun acc' => cflOut k t l d (i + 1) acc') (fun k => by simp only [cflOut]) (Ev.bind hr1 hr), by omega, fun h i' j' s1 s2 s3 => ?_⟩
    by_cases e : i' = i
    · rw [e]; exact p3 (by omega) j' (by omega) s3
    · exact q3 (by omega) i' j' (by omega) s2 s3
theorem holds_common (t s : Int) (ht : 2 ≤ t) (a b : SU) (r : Int) (ha : holdB t r s a = true) (hb : holdB t r s b = true) : a.f0 = b.f0 ∧ ∃ k : Int, a.f2 - b.f2 - b.f3 < k * t ∧ k * t < a.f2 + a.f3 - b.f2 := by
  have key : ∀ u : SU, holdB t r s u = true → u.f0 = r ∧ (s - u.f2) % t < u.f3 := by
    intro u hu
    unfold holdB at hu
    rw [Bool.and_eq_true, Bool.or_eq_true, decide_eq_true_eq, decide_eq_true_eq, decide_eq_true_eq, ← Int.sub_emod] at hu
    have := Int.emod_lt_of_pos (s - u.f2) (show 0 < t by omega)
    refine ⟨hu.1, ?_⟩
    rcases hu.2 with h | h <;> omega
  obtain ⟨a0, a1⟩ := key a ha
  obtain ⟨b0, b1⟩ := key b hb
  have am := Int.emod_nonneg (s - a.f2) (show t ≠ 0 by omega)
  have bm := Int.emod_nonneg (s - b.f2) (show t ≠ 0 by omega)
  have ea := Int.mul_ediv_add_emod (s - a.f2) t
  have eb := Int.mul_ediv_add_emod (s - b.f2) t
  refine ⟨by omega, (s - b.f2) / t - (s - a.f2) / t, ?_⟩
  rw [Int.sub_mul, Int.mul_comm ((s - b.f2) / t) t, Int.mul_comm ((s - a.f2) / t) t]
  omega
theorem ev_uniq {α : Type} {g : Nat → Option α} {x y : α} (h1 : Ev g x) (h2 : Ev g y) : x = y := by
  obtain ⟨K1, h1⟩ := h1
  obtain ⟨K2, h2⟩ := h2
  have a := h1 (K1 + K2) (by omega)
  have b := h2 (K1 + K2) (by omega)
  rw [a] at b
  exact Option.some.inj b
theorem OccupancyFreeMeansOne : railplanlaw19_OccupancyFreeMeansOne.Pure := by
  intro a0 l1 a2 a3 _ _ h1 _ _ _
  apply Ev.rounds
  unfold railplanlaw19_OccupancyFreeMeansOne.f
  obtain ⟨p, hp, hp0, hp1⟩ := pick_f a0 40 (by omega) (by omega)
  obtain ⟨q, hq, hq0, hq1⟩ := pick_f a2 3 (by omega) (by omega)
  have hw : wrap64 (2 + p) = 2 + p := w64 _ (by omega) (by omega)
  obtain ⟨v, hv, hv7, hok⟩ := some_ev l1 (by omega)
  obtain ⟨L, hL, hm⟩ := atIn_ok (2 + p) q a3 (by omega) (by omega) v (by omega) v.length 0 [] (by omega) (by simp)
  have hval := valid_ok (2 + p) (by omega) (by omega) v hok
  have hat : occupancy_At.f (2 + p) v q a3 = some (Go.Lib.compact (L.mergeSort fun x y => decide (x ≤ y))) := by
    unfold occupancy_At.f
    rw [hval, Option.bind_some, if_pos rfl, hL, Option.bind_some]
  obtain ⟨c, hc, _, hnone⟩ := cflOut_ev (2 + p) (by omega) (by omega) v hv7 hok v.length 0 [] (by omega) (by simp; omega)
  have hfree : Ev (fun k => occupancy_Free.f k (2 + p) v) (decide (c.length = 0)) := by
    unfold occupancy_Free.f occupancy_Conflicts.f
    refine Ev.congr (f := fun k => (cflOut k (2 + p) v v.length 0 []).bind fun c => some (decide (c.length = 0))) (fun k => by rw [hval, Option.bind_some, if_pos rfl, Option.bind_some, if_pos rfl]) (Ev.bind hc (Ev.now _))
  refine Ev.congr (fun k => by rw [hp, Option.bind_some, hw]) (Ev.bind hv ?_)
  refine Ev.congr (fun k => by rw [hq, Option.bind_some, hat, Option.bind_some]) (Ev.bind awake_ev ?_)
  refine Ev.congr (fun k => by rw [if_pos rfl]) (Ev.bind hfree ?_)
  by_cases h0 : c.length = 0
  · have hone : ∀ y ∈ L, ∀ z ∈ L, y = z := by
      intro y hy z hz
      rcases hm y hy with h | ⟨i, _, i1, i2, i3⟩
      · cases h
      rcases hm z hz with h | ⟨j, _, j1, j2, j3⟩
      · cases h
      rcases Int.lt_or_le y z with hne | hne
      · exfalso
        rcases Nat.le_total i j with hij | hij
        · obtain ⟨b, hb, hbt⟩ := hit_ev (2 + p) (by omega) (by omega) _ _ (hok _ (memU v i i1)) (hok _ (memU v j j1))
          obtain ⟨e0, ek⟩ := holds_common (2 + p) a3 (by omega) _ _ q i2 j2
          have := ev_uniq hb (hnone (by simpa using h0) i j (Nat.zero_le _) hij j1)
          have := hbt e0 (by omega) ek
          simp_all
        · obtain ⟨b, hb, hbt⟩ := hit_ev (2 + p) (by omega) (by omega) _ _ (hok _ (memU v j j1)) (hok _ (memU v i i1))
          obtain ⟨e0, ek⟩ := holds_common (2 + p) a3 (by omega) _ _ q j2 i2
          have := ev_uniq hb (hnone (by simpa using h0) j i (Nat.zero_le _) hij i1)
          have := hbt e0 (by omega) ek
          simp_all
      · rcases Int.lt_or_le z y with hne2 | hne2
        · exfalso
          rcases Nat.le_total i j with hij | hij
          · obtain ⟨b, hb, hbt⟩ := hit_ev (2 + p) (by omega) (by omega) _ _ (hok _ (memU v i i1)) (hok _ (memU v j j1))
            obtain ⟨e0, ek⟩ := holds_common (2 + p) a3 (by omega) _ _ q i2 j2
            have := ev_uniq hb (hnone (by simpa using h0) i j (Nat.zero_le _) hij j1)
            have := hbt e0 (by omega) ek
            simp_all
          · obtain ⟨b, hb, hbt⟩ := hit_ev (2 + p) (by omega) (by omega) _ _ (hok _ (memU v j j1)) (hok _ (memU v i i1))
            obtain ⟨e0, ek⟩ := holds_common (2 + p) a3 (by omega) _ _ q j2 i2
            have := ev_uniq hb (hnone (by simpa using h0) j i (Nat.zero_le _) hij i1)
            have := hbt e0 (by omega) ek
            simp_all
        · omega
    have hlen : (Go.Lib.compact (L.mergeSort fun x y => decide (x ≤ y))).length ≤ 1 := by
      cases L with
      | nil => exact compact_same 0 [] (fun y hy => by cases hy)
      | cons x L => exact compact_same x (x :: L) (fun y hy => hone y hy x List.mem_cons_self)
    refine Ev.congr (fun k => by rw [if_pos (decide_eq_true h0), decide_eq_true (by omega)]) (Ev.now _)
  · exact Ev.congr (fun k => by rw [if_neg (by rw [decide_eq_false h0]; decide)]) (Ev.now _)
end Go.Proofs.Ytjbemmngnigaiaa.Pure
