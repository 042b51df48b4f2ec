/- OccupancyConflictIsCommon: two uses by different trains are in conflict just where a second of the period is held by both. No condition but those stated. -/
import Derived.Test.YtjbemmngnigaiaaPureOccupancyFreeMeansOne
import Derived.Test.YtjbemmngnigaiaaPAllxf5
namespace Go.Proofs.Ytjbemmngnigaiaa.Pure
set_option linter.unusedVariables false
set_option linter.unusedSimpArgs false
open Go.RowKit Go.Proofs.Ytjbemmngnigaiaa.PAll Go.Proofs.YtjbemmngnigaiaaW.PrintWords Go.Proofs.YtjbemmngnigaiaaW.PrintLast
def okW (u : SU) : Prop := 0 ≤ u.f0 ∧ (0 ≤ u.f1 ∧ u.f1 ≤ 1000) ∧ (-20 ≤ u.f2 ∧ u.f2 ≤ 39) ∧ (1 ≤ u.f3 ∧ u.f3 ≤ 14) ∧ (0 ≤ u.f4 ∧ u.f4 ≤ 3)
theorem validW (t : Int) (h1 : 2 ≤ t) (h2 : t ≤ 7200) (v : List SU) (h : ∀ u ∈ v, okW u) : occupancy_Valid.f t v = some true := by
  unfold occupancy_Valid.f
  have : v.any badUse = false := by
    rw [List.any_eq_false]
    intro u hu
    obtain ⟨a1, ⟨b1, b2⟩, ⟨c1, c2⟩, ⟨d1, d2⟩, e1, e2⟩ := h u hu
    unfold badUse
    simp
    omega
  rw [this, decide_eq_true h1, decide_eq_true h2]
  rfl
theorem cdiv2 (x t : Int) (ht : 2 ≤ t) (h0 : -1000 ≤ x) (h1 : x ≤ 1000) : ∃ c, arith_CeilDiv.f x t = some (c, 0) ∧ -1001 ≤ c ∧ c ≤ 1001 ∧ ∀ k : Int, k * t < x ↔ k < c := by
  obtain ⟨c, hc, c0, c1, hk⟩ := cdiv x t ht h0 h1
  refine ⟨c, hc, c0, c1, fun k => ⟨hk k, fun h => ?_⟩⟩
  have e1 := Int.tdiv_eq_ediv (a := x) (b := t)
  have e2 := Int.tmod_eq_emod (a := x) (b := t)
  have q0 := Int.emod_nonneg x (show t ≠ 0 by omega)
  have q1 := Int.emod_lt_of_pos x (show 0 < t by omega)
  have ed := Int.mul_ediv_add_emod x t
  have hn : (t.natAbs : Int) = t := by omega
  have hs : t.sign = 1 := Int.sign_eq_one_of_pos (by omega)
  obtain ⟨q, hq⟩ : ∃ q, q = x / t := ⟨_, rfl⟩
  rw [← hq] at ed e1
  have b0 : -1001 ≤ q := by
    rcases Int.lt_or_le q (-1001) with h | h
    · have : t * q ≤ t * (-1002) := Int.mul_le_mul_of_nonneg_left (by omega) (by omega)
      omega
    · exact h
  have b1 : q ≤ 1001 := by
    rcases Int.lt_or_le 1001 q with h | h
    · have : t * 1002 ≤ t * q := Int.mul_le_mul_of_nonneg_left (by omega) (by omega)
      omega
    · exact h
  unfold arith_CeilDiv.f at hc
  rw [if_neg (by omega), if_neg (by omega)] at hc
  have key : c ≤ q ∨ (c = q + 1 ∧ 0 < x % t) := by
    by_cases hd : 0 ≤ x ∨ t ∣ x
    · rw [if_pos hd] at e1 e2
      by_cases hm : Int.tmod x t > 0
      · rw [if_pos hm, w64 (Int.tdiv x t) (by omega) (by omega), w64 _ (by omega) (by omega)] at hc
        injection hc with hc
        injection hc with hc
        exact .inr ⟨by omega, by omega⟩
      · rw [if_neg hm, w64 (Int.tdiv x t) (by omega) (by omega)] at hc
        injection hc with hc
        injection hc with hc
        exact .inl (by omega)
    · rw [if_neg hd] at e1 e2
      rw [hn] at e2
      rw [hs] at e1
      have hpos : x % t ≠ 0 := fun hz => hd (.inr (Int.dvd_of_emod_eq_zero hz))
      rw [if_neg (by omega), w64 (Int.tdiv x t) (by omega) (by omega)] at hc
      injection hc with hc
      injection hc with hc
      exact .inr ⟨by omega, by omega⟩
  rcases key with h2 | ⟨h2, h3⟩
  · have : t * k ≤ t * (q - 1) := Int.mul_le_mul_of_nonneg_left (by omega) (by omega)
    rw [Int.mul_sub, Int.mul_one, Int.mul_comm t k] at this
    omega
  · have : t * k ≤ t * q := Int.mul_le_mul_of_nonneg_left (by omega) (by omega)
    rw [Int.mul_comm t k] at this
    omega
theorem hitW (t : Int) (h1 : 2 ≤ t) (h2 : t ≤ 41) (a b : SU) (ha : okW a) (hb : okW b) : ∃ v, Ev (fun k => hit k t a b) v ∧ (a.f1 ≠ b.f1 → (v = true ↔ a.f0 = b.f0 ∧ ∃ k : Int, a.f2 - b.f2 - b.f3 < k * t ∧ k * t < a.f2 + a.f3 - b.f2)) := by
  obtain ⟨_, _, ⟨a20, a21⟩, ⟨a30, a31⟩, _⟩ := ha
  obtain ⟨_, _, ⟨b20, b21⟩, ⟨b30, b31⟩, _⟩ := hb
  unfold hit
  by_cases he : a.f0 = b.f0
  · obtain ⟨c, hc, c0, c1, hck⟩ := cdiv2 (a.f2 + a.f3 - b.f2) t h1 (by omega) (by omega)
    have hf := fdiv (a.f2 - b.f2 - b.f3) t h1 (by omega) (by omega)
    have hfk : ∀ k : Int, a.f2 - b.f2 - b.f3 < k * t ↔ (a.f2 - b.f2 - b.f3) / t < k := fun k => (Int.ediv_lt_iff_lt_mul (by omega)).symm
    obtain ⟨q, hq⟩ : ∃ q, q = (a.f2 - b.f2 - b.f3) / t := ⟨_, rfl⟩
    rw [← hq] at hf hfk
    have q0 : -2000 ≤ q := by
      rcases Int.lt_or_le q (-2000) with h | h
      · have := (hfk (q + 1)).2 (by omega)
        have : t * (q + 1) ≤ t * (-2000) := Int.mul_le_mul_of_nonneg_left (by omega) (by omega)
        rw [Int.mul_comm t (q + 1)] at this
        omega
      · exact h
    have q1 : q ≤ 2000 := by
      rcases Int.lt_or_le 2000 q with h | h
      · have h3 : ¬ a.f2 - b.f2 - b.f3 < q * t := fun h3 => by have := (hfk q).1 h3; omega
        have : t * 2001 ≤ t * q := Int.mul_le_mul_of_nonneg_left (by omega) (by omega)
        rw [Int.mul_comm t q] at this
        omega
      · exact h
    have hcf : ∀ k, occupancy_conflict.f k t a.f0 a.f1 a.f2 a.f3 a.f4 b.f0 b.f1 b.f2 b.f3 b.f4 = if a.f1 = b.f1 then occupancy_conflict.l0 k (q + 1) (c - 1) (q + 1) a.f0 a.f1 a.f2 a.f3 a.f4 else some (decide (q + 1 ≤ c - 1)) := by
      intro k
      unfold occupancy_conflict.f
      rw [w64 (a.f2 - b.f2) (by omega) (by omega), w64 _ (by omega) (by omega), hf, Option.bind_some, w64 (a.f2 + a.f3) (by omega) (by omega), w64 (a.f2 + a.f3 - b.f2) (by omega) (by omega), hc, Option.bind_some, w64 (q + 1) (by omega) (by omega), w64 (c - 1) (by omega) (by omega)]
    by_cases ht : a.f1 = b.f1
    · obtain ⟨v, hv⟩ := cf_l0 (q + 1) (c - 1) a.f0 a.f1 a.f2 a.f3 a.f4 (by omega) (by omega) 2 (q + 1) (by omega) (Int.le_refl _)
      exact ⟨v, Ev.congr (fun k => by rw [if_pos he, hcf, if_pos ht]) hv, fun h => absurd ht h⟩
    · refine ⟨decide (q + 1 ≤ c - 1), Ev.congr (fun k => by rw [if_pos he, hcf, if_neg ht]) (Ev.now _), fun _ => ⟨fun h => ⟨he, q + 1, (hfk _).2 (by omega), (hck _).2 (by have := of_decide_eq_true h; omega)⟩, fun ⟨_, k, hk1, hk2⟩ => ?_⟩⟩
      have := (hfk k).1 hk1
      have := (hck k).1 hk2
      exact decide_eq_true (by omega)
  · exact ⟨false, Ev.congr (fun k => by rw [if_neg he]) (Ev.now _), fun _ => ⟨(fun h => by cases h), (fun h => absurd h.1 he)⟩⟩
/-- Both hold a second of the period just where some shift lets them meet. -/
theorem common_iff (t a la b lb : Int) (ht : 2 ≤ t) (hla : 1 ≤ la) (hlb : 1 ≤ lb) : (∃ s : Int, 0 ≤ s ∧ s < t ∧ (s - a) % t < la ∧ (s - b) % t < lb) ↔ ∃ k : Int, a - b - lb < k * t ∧ k * t < a + la - b := by
  constructor
  · rintro ⟨s, s0, s1, ha, hb⟩
    have am := Int.emod_nonneg (s - a) (show t ≠ 0 by omega)
    have bm := Int.emod_nonneg (s - b) (show t ≠ 0 by omega)
    have ea := Int.mul_ediv_add_emod (s - a) t
    have eb := Int.mul_ediv_add_emod (s - b) t
    refine ⟨(s - b) / t - (s - a) / t, ?_⟩
    rw [Int.sub_mul, Int.mul_comm ((s - b) / t) t, Int.mul_comm ((s - a) / t) t]
    omega
  · rintro ⟨k, k0, k1⟩
    obtain ⟨x, x0, x1, x2, x3⟩ : ∃ x : Int, a ≤ x ∧ x < a + la ∧ b + k * t ≤ x ∧ x < b + k * t + lb := by
      rcases Int.le_total a (b + k * t) with h | h
      · exact ⟨b + k * t, h, by omega, Int.le_refl _, by omega⟩
      · exact ⟨a, Int.le_refl _, by omega, h, by omega⟩
    have small : ∀ y : Int, 0 ≤ y → y % t ≤ y := fun y hy => by
      have e1 := Int.mul_ediv_add_emod y t
      have e2 := Int.ediv_nonneg hy (show 0 ≤ t by omega)
      have e3 := Int.mul_nonneg (show 0 ≤ t by omega) e2
      omega
    refine ⟨x % t, Int.emod_nonneg _ (by omega), Int.emod_lt_of_pos _ (by omega), ?_, ?_⟩
    · have h := small (x - a) (by omega)
      have e : (x % t - a) % t = (x - a) % t := Int.emod_sub_emod ..
      omega
    · have h := small (x - b - k * t) (by omega)
      have e : (x % t - b) % t = (x - b - k * t) % t := by
        rw [Int.emod_sub_emod, Int.sub_mul_emod_self_right]
      omega
theorem hits_any (c : List (Int × Int)) (j i : Nat) : ∀ n, n ≤ c.length → (hits c j i n = true ↔ ((j : Int), (i : Int)) ∈ c.take n)
  | 0, _ => by simp [hits]
  | n + 1, h => by
    rw [hits, Bool.or_eq_true, hits_any c j i n (by omega), List.take_succ_eq_append_getElem (by omega), List.mem_append, List.mem_singleton, Bool.and_eq_true, beq_iff_eq, beq_iff_eq]
    have : c.getD n (0, 0) = c[n] := by rw [List.getD_eq_getElem?_getD, List.getElem?_eq_getElem (by omega)]; rfl
    rw [this]
    constructor
    · rintro (h | ⟨h1, h2⟩)
      · exact .inl h
      · exact .inr (by rw [← h1, ← h2])
    · rintro (h | h)
      · exact .inl h
      · exact .inr ⟨by rw [← h], by rw [← h]⟩
theorem cflInW (t : Int) (l : List SU) (hB : Nat → Nat → Bool) (hh : ∀ i j, i < l.length → j < l.length → Ev (fun k => hit k t (rd_T23 l i) (rd_T23 l j)) (hB i j)) (i : Nat) (hi : i < l.length) : ∀ (d j : Nat) (acc : List (Int × Int)), j + d = l.length → acc.length + d ≤ 8000 →
    ∃ r, Ev (fun k => cflIn k t l i d j acc) r ∧ r.length ≤ acc.length + d ∧ ∀ p, p ∈ r ↔ p ∈ acc ∨ ∃ j' : Nat, j ≤ j' ∧ j' < l.length ∧ hB i j' = true ∧ p = ((i : Int), (j' : Int)) := by
  intro d
  induction d with
  | zero => intro j acc hj ha; exact ⟨acc, Ev.congr (fun k => by simp only [cflIn]) (Ev.now _), Nat.le_refl _, fun p => ⟨.inl, fun h => h.elim id (fun ⟨j', a, b, _⟩ => by omega)⟩⟩
  | succ d ih =>
    intro j acc hj ha
    have hv := hh i j hi (by omega)
    cases hb : hB i j with
    | true =>
      rw [hb] at hv
      obtain ⟨r, hr, q2, q3⟩ := ih (j + 1) (acc ++ [((i : Int), (j : Int))]) (by omega) (by rw [List.length_append, List.length_singleton]; omega)
      rw [List.length_append, List.length_singleton] at q2
      refine ⟨r, Ev.congr (f := fun k => (hit k t (rd_T23 l i) (rd_T23 l j)).bind fun b => if b = true then (if acc.length < 8796093022000 then cflIn k t l i d (j + 1) (acc ++ [((i : Int), (j : Int))]) else none) else cflIn k t l i d (j + 1) acc) (fun k => by simp only [cflIn]) (Ev.bind hv (Ev.congr (fun k => by rw [if_pos rfl, if_pos (by omega)]) hr)), by omega, fun p => ?_⟩
      rw [q3, List.mem_append, List.mem_singleton]
      constructor
      · rintro ((h | h) | ⟨j', a, b, c, e⟩)
        · exact .inl h
        · exact .inr ⟨j, Nat.le_refl _, by omega, hb, h⟩
        · exact .inr ⟨j', by omega, b, c, e⟩
      · rintro (h | ⟨j', a, b, c, e⟩)
        · exact .inl (.inl h)
        · by_cases ej : j' = j
          · exact .inl (.inr (by rw [e, ej]))
          · exact .inr ⟨j', by omega, b, c, e⟩
    | false =>
      rw [hb] at hv
      obtain ⟨r, hr, q2, q3⟩ := ih (j + 1) acc (by omega) (by omega)
      refine ⟨r, Ev.congr (f := fun k => (hit k t (rd_T23 l i) (rd_T23 l j)).bind fun b => if b = true then (if acc.length < 8796093022000 then cflIn k t l i d (j + 1) (acc ++ [((i : Int), (j : Int))]) else none) else cflIn k t l i d (j + 1) acc) (fun k => by simp only [cflIn]) (Ev.bind hv (Ev.congr (fun k => by rw [if_neg (by decide)]) hr)), by omega, fun p => ?_⟩
      rw [q3]
      constructor
      · rintro (h | ⟨j', a, b, c, e⟩)
        · exact .inl h
        · exact .inr ⟨j', by omega, b, c, e⟩
      · rintro (h | ⟨j', a, b, c, e⟩)
        · exact .inl h
        · refine .inr ⟨j', ?_, b, c, e⟩
          have : j' ≠ j := fun ej => by rw [ej, hb] at c; cases c
          omega
theorem cflOutW (t : Int) (l : List SU) (hl : l.length ≤ 7) (hB : Nat → Nat → Bool) (hh : ∀ i j, i < l.length → j < l.length → Ev (fun k => hit k t (rd_T23 l i) (rd_T23 l j)) (hB i j)) : ∀ (d i : Nat) (acc : List (Int × Int)), i + d = l.length → acc.length + d * 7 ≤ 1000 →
    ∃ r, Ev (fun k => cflOut k t l d i acc) r ∧ r.length ≤ acc.length + d * 7 ∧ ∀ p, p ∈ r ↔ p ∈ acc ∨ ∃ i' j' : Nat, i ≤ i' ∧ i' ≤ j' ∧ j' < l.length ∧ hB i' j' = true ∧ p = ((i' : Int), (j' : Int)) := by
  intro d
  induction d with
  | zero => intro i acc hi ha; exact ⟨acc, Ev.congr (fun k => by simp only [cflOut]) (Ev.now _), by omega, fun p => ⟨.inl, fun h => h.elim id (fun ⟨i', j', a, b, c, _⟩ => by omega)⟩⟩
  | succ d ih =>
    intro i acc hi ha
    obtain ⟨r1, hr1, p2, p3⟩ := cflInW t l hB hh i (by omega) (l.length - i) i acc (by omega) (by omega)
    obtain ⟨r, hr, q2, q3⟩ := ih (i + 1) r1 (by omega) (by omega)
    refine ⟨r, Ev.congr (f := fun k => (cflIn k t l i (l.length - i) i acc).bind fun acc' => cflOut k t l d (i + 1) acc') (fun k => by simp only [cflOut]) (Ev.bind hr1 hr), by omega, fun p => ?_⟩
    rw [q3, p3]
    constructor
    · rintro ((h | ⟨j', a, b, c, e⟩) | ⟨i', j', a, b, c, e, f⟩)
      · exact .inl h
      · exact .inr ⟨i, j', Nat.le_refl _, a, b, c, e⟩
      · exact .inr ⟨i', j', by omega, b, c, e, f⟩
    · rintro (h | ⟨i', j', a, b, c, e, f⟩)
      · exact .inl (.inl h)
      · by_cases ei : i' = i
        · subst ei
          exact .inl (.inr ⟨j', b, c, e, f⟩)
        · exact .inr ⟨i', j', by omega, b, c, e, f⟩
theorem numb_get (u : List SU) : ∀ (n i : Nat), n ≤ u.length → i < u.length → rd_T23 (numb n u) i = if i < n then { rd_T23 u i with f1 := (i : Int) } else rd_T23 u i
  | 0, i, _, hi => by rw [if_neg (by omega)]; rfl
  | n + 1, i, hn, hi => by
    have ih := numb_get u n
    have e : ∀ (xs : List SU) (i : Nat), rd_T23 xs i = xs.getD i z23 := fun _ _ => rfl
    rw [e, numb, List.getD_eq_getElem?_getD]
    by_cases h : n = i
    · subst h
      rw [List.getElem?_set_self (by rw [numb_length]; omega), if_pos (by omega), ← e, ih n (by omega) (by omega), if_neg (by omega)]
      rfl
    · rw [List.getElem?_set_ne h, ← List.getD_eq_getElem?_getD, ← e, ih i (by omega) hi]
      by_cases h2 : i < n
      · rw [if_pos h2, if_pos (by omega)]
      · rw [if_neg h2, if_neg (by omega)]
theorem OccupancyConflictIsCommon : railplanlaw19_OccupancyConflictIsCommon.Pure := by
  intro a0 l1 h1
  obtain ⟨p, hp, hp0, hp1⟩ := pick_f a0 30 (by omega) (by omega)
  obtain ⟨u, hu, hu7, hok⟩ := some_ev l1 (by omega)
  obtain ⟨v, hv⟩ : ∃ v, v = numb u.length u := ⟨_, rfl⟩
  have hvl : v.length = u.length := by rw [hv, numb_length]
  have hg : ∀ i, i < u.length → rd_T23 v i = { rd_T23 u i with f1 := (i : Int) } := fun i hi => by rw [hv, numb_get u _ i (Nat.le_refl _) hi, if_pos hi]
  have hokr : ∀ i, i < u.length → okW (rd_T23 v i) := fun i hi => by
    rw [hg i hi]
    obtain ⟨⟨a1, a2⟩, ⟨b1, b2⟩, c, d, e⟩ := hok _ (memU u i hi)
    exact ⟨a1, ⟨by dsimp only; omega, by dsimp only; omega⟩, c, d, e⟩
  have hokW : ∀ x ∈ v, okW x := fun x hx => by
    obtain ⟨i, hi, rfl⟩ := List.getElem_of_mem hx
    have := hokr i (by omega)
    rwa [show rd_T23 v i = v[i] from by rw [show rd_T23 v i = v.getD i z23 from rfl, List.getD_eq_getElem?_getD, List.getElem?_eq_getElem hi]; rfl] at this
  have hx : ∀ i j : Nat, ∃ b : Bool, i < v.length → j < v.length → Ev (fun k => hit k (2 + p) (rd_T23 v i) (rd_T23 v j)) b ∧ ((rd_T23 v i).f1 ≠ (rd_T23 v j).f1 → (b = true ↔ (rd_T23 v i).f0 = (rd_T23 v j).f0 ∧ ∃ k : Int, (rd_T23 v i).f2 - (rd_T23 v j).f2 - (rd_T23 v j).f3 < k * (2 + p) ∧ k * (2 + p) < (rd_T23 v i).f2 + (rd_T23 v i).f3 - (rd_T23 v j).f2)) := by
    intro i j
    by_cases h : i < v.length ∧ j < v.length
    · obtain ⟨b, q1, q2⟩ := hitW (2 + p) (by omega) (by omega) _ _ (hokr i (by omega)) (hokr j (by omega))
      exact ⟨b, fun _ _ => ⟨q1, q2⟩⟩
    · exact ⟨false, fun a b => absurd ⟨a, b⟩ h⟩
  obtain ⟨hB, hB1⟩ : ∃ hB : Nat → Nat → Bool, ∀ i j, i < v.length → j < v.length → Ev (fun k => hit k (2 + p) (rd_T23 v i) (rd_T23 v j)) (hB i j) ∧ ((rd_T23 v i).f1 ≠ (rd_T23 v j).f1 → (hB i j = true ↔ (rd_T23 v i).f0 = (rd_T23 v j).f0 ∧ ∃ k : Int, (rd_T23 v i).f2 - (rd_T23 v j).f2 - (rd_T23 v j).f3 < k * (2 + p) ∧ k * (2 + p) < (rd_T23 v i).f2 + (rd_T23 v i).f3 - (rd_T23 v j).f2)) :=
    ⟨fun i j => Classical.choose (hx i j), fun i j => Classical.choose_spec (hx i j)⟩
  obtain ⟨c, hc, hcl, hcm⟩ := cflOutW (2 + p) v (by omega) hB (fun i j a b => (hB1 i j a b).1) v.length 0 [] (by omega) (by simp; omega)
  have hval := validW (2 + p) (by omega) (by omega) v hokW
  have hconf : Ev (fun k => occupancy_Conflicts.f k (2 + p) v) c := by
    unfold occupancy_Conflicts.f
    exact Ev.congr (fun k => by rw [hval, Option.bind_some, if_pos rfl]) hc
  obtain ⟨k1, K1⟩ := hu
  obtain ⟨k2, K2⟩ := hconf
  obtain ⟨k3, K3⟩ := awake_ev
  rw [List.length_nil] at hcl
  refine ⟨k1 + k2 + k3, p, u, c, hp, hp0, hp1, K1 _ (by omega), by omega, by omega, by rw [← hv]; exact K2 _ (by omega), K3 _ (by omega), fun i hi j hj => ?_⟩
  rw [← hv]
  obtain ⟨a, ha⟩ : ∃ a, a = rd_T23 v i := ⟨_, rfl⟩
  obtain ⟨b, hb⟩ : ∃ b, b = rd_T23 v j := ⟨_, rfl⟩
  have oka := hokr i hi
  have okb := hokr j (by omega)
  have hne : b.f1 ≠ a.f1 := by
    rw [ha, hb, hg i hi, hg j (by omega)]
    dsimp only
    omega
  have hbi := (hB1 j i (by omega) (by omega)).2
  rw [← ha] at oka
  rw [← hb] at okb
  rw [← ha, ← hb] at hbi ⊢
  replace hbi := hbi hne
  obtain ⟨_, _, ⟨a20, a21⟩, ⟨a30, a31⟩, _⟩ := oka
  obtain ⟨_, _, ⟨b20, b21⟩, ⟨b30, b31⟩, _⟩ := okb
  refine ⟨fun s => ((s : Int) - a.f2) % (2 + p), fun s => ((s : Int) - b.f2) % (2 + p), fun n => (List.range n).any fun s => decide (((s : Int) - a.f2) % (2 + p) < a.f3) && decide (((s : Int) - b.f2) % (2 + p) < b.f3), rfl, fun s hs => ⟨?_, ?_, ?_⟩, ?_⟩
  · unfold railplanref1_Mod.f
    rw [w64 _ (by omega) (by omega), if_neg (by omega), if_neg (by omega)]
    exact tmod_any _ _ (by omega) (by omega)
  · unfold railplanref1_Mod.f
    rw [w64 _ (by omega) (by omega), if_neg (by omega), if_neg (by omega)]
    exact tmod_any _ _ (by omega) (by omega)
  · dsimp only
    rw [List.range_succ, List.any_append, List.any_cons, List.any_nil, Bool.or_false]
  · rw [Bool.eq_iff_iff, hits_any c j i c.length (Nat.le_refl _), List.take_length, hcm, Bool.and_eq_true, decide_eq_true_eq, List.any_eq_true]
    have hci := common_iff (2 + p) b.f2 b.f3 a.f2 a.f3 (by omega) (by omega) (by omega)
    constructor
    · rintro (h | ⟨i', j', _, _, _, e1, e2⟩)
      · cases h
      · injection e2 with e2 e3
        obtain rfl : j = i' := by omega
        obtain rfl : i = j' := by omega
        obtain ⟨q1, q2⟩ := hbi.1 e1
        obtain ⟨s, s0, s1, s2, s3⟩ := hci.2 q2
        refine ⟨⟨s.toNat, by rw [List.mem_range]; omega, ?_⟩, q1.symm⟩
        rw [Int.toNat_of_nonneg s0, Bool.and_eq_true, decide_eq_true_eq, decide_eq_true_eq]
        exact ⟨s3, s2⟩
    · rintro ⟨⟨s, s1, s2⟩, q1⟩
      rw [Bool.and_eq_true, decide_eq_true_eq, decide_eq_true_eq] at s2
      rw [List.mem_range] at s1
      exact .inr ⟨j, i, Nat.zero_le _, by omega, by omega, hbi.2 ⟨q1.symm, hci.1 ⟨s, by omega, by omega, s2.2, s2.1⟩⟩, rfl⟩
end Go.Proofs.Ytjbemmngnigaiaa.Pure
