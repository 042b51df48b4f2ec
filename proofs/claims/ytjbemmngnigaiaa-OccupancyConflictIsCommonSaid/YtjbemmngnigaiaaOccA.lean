/- Plain facts about uses: what some makes, residues, conflicts of different trains, what At lists. No condition but those stated. -/
import Derived.Test.YtjbemmngnigaiaaPAllxf6
import Derived.Lib.RowBridge
namespace Go.Proofs.Ytjbemmngnigaiaa.Pure
set_option linter.unusedVariables false
set_option linter.unusedSimpArgs false
open Go.RowKit Go.Proofs.Ytjbemmngnigaiaa.PAll Go.Proofs.YtjbemmngnigaiaaW.PrintWords Go.Proofs.YtjbemmngnigaiaaW.PrintLast
abbrev SU := S23
theorem w64 (x : Int) (h0 : -9223372036854775808 ≤ x) (h1 : x ≤ 9223372036854775807) : wrap64 x = x := by unfold wrap64; omega
theorem ws (i : Nat) (h : i < 4611686018427387904) : wrap64 ((i : Int) + 1) = ((i + 1 : Nat) : Int) := by rw [w64 _ (by omega) (by omega)]; rfl
theorem u64_wrap (a : Int) : IntKind.u64.wrap a = a % 18446744073709551616 := by
  unfold IntKind.wrap
  simp only [IntKind.signed, IntKind.bits]
  simp
theorem pick_f (a n : Int) (h1 : 1 ≤ n) (h2 : n ≤ 4611686018427387904) : ∃ v, railplankeep_Pick.f a n = some v ∧ 0 ≤ v ∧ v < n := by
  unfold railplankeep_Pick.f
  rw [u64_wrap, u64_wrap]
  have e : n % 18446744073709551616 = n := Int.emod_eq_of_lt (by omega) (by omega)
  rw [e, if_neg (by omega)]
  have p0 : 0 ≤ a % 18446744073709551616 := Int.emod_nonneg _ (by omega)
  have q0 : Int.tmod (a % 18446744073709551616) n = (a % 18446744073709551616) % n := Int.tmod_eq_emod_of_nonneg p0
  have q1 := Int.emod_nonneg (a % 18446744073709551616) (show n ≠ 0 by omega)
  have q2 := Int.emod_lt_of_pos (a % 18446744073709551616) (show 0 < n by omega)
  refine ⟨_, rfl, ?_, ?_⟩ <;> rw [q0, w64 _ (by omega) (by omega)] <;> assumption
theorem next_f (l : List Int) (i n : Int) (hl : l.length ≤ 1152921504606846976) (h0 : 0 ≤ i) (h1 : i ≤ l.length) (hn : 1 ≤ n) (hn2 : n ≤ 4611686018427387904) :
    ∃ v j, railplankeep_Source_Next.f l i n = some (v, j) ∧ 0 ≤ v ∧ v < n ∧ 0 ≤ j ∧ j ≤ l.length := by
  unfold railplankeep_Source_Next.f
  by_cases h : i ≥ (l.length : Int)
  · rw [if_pos h]; exact ⟨0, i, rfl, by omega, by omega, h0, h1⟩
  · rw [if_neg h, w64 (i + 1) (by omega) (by omega), w64 (i + 1 - 1) (by omega) (by omega), if_pos (by omega), if_pos (by omega)]
    obtain ⟨v, e, a, b⟩ := pick_f (rd l (i + 1 - 1)) n hn hn2
    rw [e]
    exact ⟨v, i + 1, rfl, a, b, by omega, by omega⟩
theorem compact_one (x : Int) (d : Array Int) : ∀ m : Nat, (∀ j, j < m → d[j]! = x) → (Go.Lib.compactUpTo d m).length ≤ 1 := by
  intro m
  induction m with
  | zero => intro _; simp [Go.Lib.compactUpTo]
  | succ m ih =>
    intro h
    rw [Go.Lib.compactUpTo_succ]
    by_cases h0 : m = 0
    · subst h0
      simp only [Go.Lib.compactUpTo, List.range_zero, List.filter_nil, List.map_nil, List.nil_append]
      split <;> simp
    · rw [Go.Lib.keeps_neg (by omega) (by rw [h m (by omega), h (m - 1) (by omega)])]
      simpa using ih (fun j hj => h j (by omega))
theorem compact_same (x : Int) (L : List Int) (h : ∀ y ∈ L, y = x) : (Go.Lib.compact (L.mergeSort fun a b => decide (a ≤ b))).length ≤ 1 := by
  unfold Go.Lib.compact
  refine compact_one x _ _ (fun j hj => ?_)
  rw [show (L.mergeSort fun a b => decide (a ≤ b)).toArray[j]! = (L.mergeSort fun a b => decide (a ≤ b))[j] from by simp; rw [List.getElem?_eq_getElem hj]; rfl]
  exact h _ ((List.mergeSort_perm L _).subset (List.getElem_mem hj))
theorem tmod_any (a b : Int) (hb : 0 < b) (h2 : b ≤ 4611686018427387904) :
    (if Int.tmod a b < 0 then (some (wrap64 (Int.tmod a b + b))) else some (Int.tmod a b)) = some (a % b) := by
  have e := Int.tmod_eq_emod (a := a) (b := b)
  have q0 := Int.emod_nonneg a (show b ≠ 0 by omega)
  have q1 := Int.emod_lt_of_pos a hb
  have hn : (b.natAbs : Int) = b := by omega
  by_cases h : 0 ≤ a ∨ b ∣ a
  · rw [if_pos h] at e
    simp only [Int.ofNat_zero, Int.natCast_zero, Int.sub_zero] at e
    rw [e, if_neg (by omega)]
  · rw [if_neg h, hn] at e
    have hpos : a % b ≠ 0 := fun hz => h (.inr (Int.dvd_of_emod_eq_zero hz))
    rw [e, if_pos (by omega), w64 _ (by omega) (by omega)]
    congr 1
    omega
theorem amod (a b : Int) (hb : 0 < b) (h2 : b ≤ 4611686018427387904) : arith_Mod.f a b = some (a % b) := by
  unfold arith_Mod.f
  rw [if_neg (by omega), if_neg (by omega)]
  exact tmod_any a b hb h2
/-- The bounds of what some makes. -/
def okU (u : SU) : Prop := (0 ≤ u.f0 ∧ u.f0 ≤ 2) ∧ (0 ≤ u.f1 ∧ u.f1 ≤ 2) ∧ (-20 ≤ u.f2 ∧ u.f2 ≤ 39) ∧ (1 ≤ u.f3 ∧ u.f3 ≤ 14) ∧ (0 ≤ u.f4 ∧ u.f4 ≤ 3)
theorem some_l0 (l : List Int) (hl : l.length ≤ 1152921504606846976) : ∀ (d : Nat) (x : List SU) (j : Int), x.length + d ≤ 7 → 0 ≤ j → j ≤ l.length → (∀ u ∈ x, okU u) →
    ∃ v, Ev (fun k => railplanlaw19_some.l0 k x (d : Int) l j) v ∧ v.length ≤ 7 ∧ ∀ u ∈ v, okU u := by
  intro d
  induction d with
  | zero =>
    intro x j hd h0 h1 hok
    exact ⟨x, Ev.step (fun k => by simp only [railplanlaw19_some.l0]; rw [if_neg (by omega)]) (Ev.now _), by omega, hok⟩
  | succ d ih =>
    intro x j hd h0 h1 hok
    obtain ⟨a1, j1, e1, p1, q1, r1, s1⟩ := next_f l j 3 hl h0 h1 (by omega) (by omega)
    obtain ⟨a2, j2, e2, p2, q2, r2, s2⟩ := next_f l j1 3 hl r1 s1 (by omega) (by omega)
    obtain ⟨a3, j3, e3, p3, q3, r3, s3⟩ := next_f l j2 60 hl r2 s2 (by omega) (by omega)
    obtain ⟨a4, j4, e4, p4, q4, r4, s4⟩ := next_f l j3 14 hl r3 s3 (by omega) (by omega)
    obtain ⟨a5, j5, e5, p5, q5, r5, s5⟩ := next_f l j4 4 hl r4 s4 (by omega) (by omega)
    have hw : wrap64 (((d + 1 : Nat) : Int) - 1) = (d : Int) := by rw [w64 _ (by omega) (by omega)]; omega
    obtain ⟨v, hv, hR⟩ := ih (x ++ [(⟨a1, a2, wrap64 (a3 - 20), wrap64 (1 + a4), a5⟩ : SU)]) j5 (by rw [List.length_append, List.length_singleton]; omega) r5 s5 (fun u hu => by
      rcases List.mem_append.1 hu with hu | hu
      · exact hok u hu
      · rw [List.mem_singleton.1 hu, w64 _ (by omega) (by omega), w64 _ (by omega) (by omega)]
        refine ⟨⟨?_, ?_⟩, ⟨?_, ?_⟩, ⟨?_, ?_⟩, ⟨?_, ?_⟩, ?_, ?_⟩ <;> dsimp only <;> omega)
    exact ⟨v, Ev.step (fun k => by simp only [railplanlaw19_some.l0]; rw [if_pos (by omega), e1, Option.bind_some, e2, Option.bind_some, e3, Option.bind_some, e4, Option.bind_some, e5, Option.bind_some, if_pos (by omega), hw]) hv, hR⟩
theorem some_ev (l : List Int) (hl : l.length ≤ 1152921504606846976) : ∃ v, Ev (fun k => railplanlaw19_some.f k l) v ∧ v.length ≤ 7 ∧ ∀ u ∈ v, okU u := by
  obtain ⟨a, j, e, p, q, r, s⟩ := next_f l 0 8 hl (by omega) (by omega) (by omega) (by omega)
  obtain ⟨d, rfl⟩ := Int.eq_ofNat_of_zero_le p
  obtain ⟨v, hv, hR⟩ := some_l0 l hl d [] j (by simp; omega) r s (fun u hu => by cases hu)
  refine ⟨v, Ev.congr (fun k => ?_) hv, hR⟩
  unfold railplanlaw19_some.f railplankeep_From.f
  rw [Option.bind_some, e, Option.bind_some]
theorem valid_ok (t : Int) (h1 : 2 ≤ t) (h2 : t ≤ 7200) (v : List SU) (h : ∀ u ∈ v, okU u) : occupancy_Valid.f t v = some true := by
  unfold occupancy_Valid.f
  have : v.any badUse = false := by
    rw [List.any_eq_false]
    intro u hu
    obtain ⟨⟨a1, a2⟩, ⟨b1, b2⟩, ⟨c1, c2⟩, ⟨d1, d2⟩, e1, e2⟩ := h u hu
    unfold badUse
    simp
    omega
  rw [this, decide_eq_true h1, decide_eq_true h2]
  rfl
theorem awake_ev : Ev (fun k => railplanlaw19_awake.f k) true := Ev.of (fun k => railplanlaw19_awake.mono k) (k := 40) (by kernel_rfl)
/-! #### who holds -/
def holdB (t r s : Int) (u : SU) : Bool := decide (u.f0 = r) && (decide (u.f3 ≥ t) || decide ((s % t - u.f2 % t) % t < u.f3))
theorem hold_eq (t r s : Int) (h1 : 2 ≤ t) (h2 : t ≤ 7200) (u : SU) : hold t r s u = some (holdB t r s u) := by
  unfold hold holdB
  by_cases he : u.f0 = r
  · rw [if_pos he, decide_eq_true he, Bool.true_and]
    by_cases h3 : u.f3 ≥ t
    · rw [if_pos h3, decide_eq_true h3, Bool.true_or]
    · have a0 := Int.emod_nonneg s (show t ≠ 0 by omega)
      have a1 := Int.emod_lt_of_pos s (show 0 < t by omega)
      have b0 := Int.emod_nonneg u.f2 (show t ≠ 0 by omega)
      have b1 := Int.emod_lt_of_pos u.f2 (show 0 < t by omega)
      rw [if_neg h3, decide_eq_false h3, Bool.false_or, amod s t (by omega) (by omega), Option.bind_some, amod u.f2 t (by omega) (by omega), Option.bind_some, w64 _ (by omega) (by omega), amod _ t (by omega) (by omega), Option.bind_some]
  · rw [if_neg he, decide_eq_false he, Bool.false_and]
theorem atIn_ok (t r s : Int) (h1 : 2 ≤ t) (h2 : t ≤ 7200) (l : List SU) (hl : l.length ≤ 1000) : ∀ (d i : Nat) (acc : List Int), i + d = l.length → acc.length ≤ i →
    ∃ L, atIn t l r s d i acc = some L ∧ ∀ y ∈ L, y ∈ acc ∨ ∃ j : Nat, i ≤ j ∧ j < l.length ∧ holdB t r s (rd_T23 l j) = true ∧ (rd_T23 l j).f1 = y := by
  intro d
  induction d with
  | zero => intro i acc hi ha; exact ⟨acc, rfl, fun y hy => .inl hy⟩
  | succ d ih =>
    intro i acc hi ha
    simp only [atIn]
    rw [hold_eq t r s h1 h2, Option.bind_some]
    cases hb : holdB t r s (rd_T23 l i) with
    | true =>
      obtain ⟨L, hL, hm⟩ := ih (i + 1) (acc ++ [(rd_T23 l i).f1]) (by omega) (by rw [List.length_append, List.length_singleton]; omega)
      refine ⟨L, by rw [if_pos rfl, if_pos (by omega)]; exact hL, fun y hy => ?_⟩
      rcases hm y hy with h | ⟨j, p1, p2, p3, p4⟩
      · rcases List.mem_append.1 h with h | h
        · exact .inl h
        · exact .inr ⟨i, Nat.le_refl _, by omega, hb, (List.mem_singleton.1 h).symm⟩
      · exact .inr ⟨j, by omega, p2, p3, p4⟩
    | false =>
      obtain ⟨L, hL, hm⟩ := ih (i + 1) acc (by omega) (by omega)
      refine ⟨L, by rw [if_neg (by decide)]; exact hL, fun y hy => ?_⟩
      rcases hm y hy with h | ⟨j, p1, p2, p3, p4⟩
      · exact .inl h
      · exact .inr ⟨j, by omega, p2, p3, p4⟩
end Go.Proofs.Ytjbemmngnigaiaa.Pure
