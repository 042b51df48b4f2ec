/- Plain facts about the functions that the Network laws reach: what Next, Network, Times, Good, Duration and Feasible answer on generated networks. No condition but those stated. -/
import Derived.Test.YtapnkefhihgbbaaPAllxf9
import Derived.Test.YtapnkefhihgbbaaPAllxf14
import Derived.Test.YtapnkefhihgbbaaPAllxf14
import Derived.Test.YtapnkefhihgbbaaPAllxf14
import Derived.Test.YtapnkefhihgbbaaPAllxf10
namespace Go.Proofs.Ytapnkefhihgbbaa.Pure
open Go.RowKit Go.Proofs.Ytapnkefhihgbbaa.PAll Go.Proofs.YtapnkefhihgbbaaW.PrintWords Go.Proofs.YtapnkefhihgbbaaW.PrintLast

theorem w64 (x : Int) (h0 : -9223372036854775808 ≤ x) (h1 : x ≤ 9223372036854775807) : wrap64 x = x := by unfold wrap64; omega

theorem u64_wrap (a : Int) : IntKind.u64.wrap a = a % 18446744073709551616 := by
  unfold IntKind.wrap
  simp only [IntKind.signed, IntKind.bits]
  simp

theorem pick_ev (a n : Int) (h1 : 1 ≤ n) (h2 : n ≤ 4611686018427387904) : ∃ v, railplankeep_Pick.f a n = some v ∧ 0 ≤ v ∧ v < n := by
  unfold railplankeep_Pick.f
  rw [u64_wrap, u64_wrap]
  have e : n % 18446744073709551616 = n := Int.emod_eq_of_lt (by omega) (by omega)
  rw [e, if_neg (by omega)]
  have p0 : 0 ≤ a % 18446744073709551616 := Int.emod_nonneg _ (by omega)
  have q0 : Int.tmod (a % 18446744073709551616) n = (a % 18446744073709551616) % n := Int.tmod_eq_emod_of_nonneg p0
  have q1 := Int.emod_nonneg (a % 18446744073709551616) (show n ≠ 0 by omega)
  have q2 := Int.emod_lt_of_pos (a % 18446744073709551616) (show 0 < n by omega)
  refine ⟨_, rfl, ?_, ?_⟩ <;> rw [q0, w64 _ (by omega) (by omega)] <;> assumption

theorem next_ev (l : List Int) (i n : Int) (hl : l.length ≤ 1152921504606846976) (h0 : 0 ≤ i) (h1 : i ≤ l.length) (hn : 1 ≤ n) (hn2 : n ≤ 4611686018427387904) :
    ∃ v j, railplankeep_Source_Next.f l i n = some (v, j) ∧ 0 ≤ v ∧ v < n ∧ 0 ≤ j ∧ j ≤ l.length := by
  unfold railplankeep_Source_Next.f
  by_cases h : i ≥ (l.length : Int)
  · rw [if_pos h]; exact ⟨0, i, rfl, by omega, by omega, h0, h1⟩
  · rw [if_neg h, w64 (i + 1) (by omega) (by omega), w64 (i + 1 - 1) (by omega) (by omega), if_pos (by omega), if_pos (by omega)]
    obtain ⟨v, e, a, b⟩ := pick_ev (rd l (i + 1 - 1)) n hn hn2
    rw [e]
    exact ⟨v, i + 1, rfl, a, b, by omega, by omega⟩

/-- What Network makes. -/
structure NetOk (p : Int) (ev : List S46) (ac : List S31) : Prop where
  p1 : 2 ≤ p
  p2 : p ≤ 9
  e1 : 1 ≤ ev.length
  e2 : ev.length ≤ 5
  a2 : ac.length ≤ 8
  a : ∀ x ∈ ac, (0 ≤ x.f1 ∧ x.f1 < ev.length) ∧ (0 ≤ x.f2 ∧ x.f2 < ev.length) ∧ x.f1 ≠ x.f2 ∧ (-9 ≤ x.f3 ∧ x.f3 ≤ 18) ∧ x.f3 ≤ x.f4 ∧ x.f4 - x.f3 < p ∧ 0 ≤ x.f5 ∧ x.f5 ≤ 4

theorem net_l1 (p : Int) (hp1 : 2 ≤ p) (hp2 : p ≤ 9) (l : List Int) (hl : l.length ≤ 1152921504606846976) (ev : List S46) (he1 : 1 ≤ ev.length) (he2 : ev.length ≤ 5) (d : Nat) :
    ∀ (k : Nat) (x7 i : Int) (ac : List S31), x7 = d → ac.length + d ≤ 8 → 0 ≤ i → i ≤ l.length →
      (∀ x ∈ ac, (0 ≤ x.f1 ∧ x.f1 < ev.length) ∧ (0 ≤ x.f2 ∧ x.f2 < ev.length) ∧ x.f1 ≠ x.f2 ∧ (-9 ≤ x.f3 ∧ x.f3 ≤ 18) ∧ x.f3 ≤ x.f4 ∧ x.f4 - x.f3 < p ∧ 0 ≤ x.f5 ∧ x.f5 ≤ 4) → 2 * d + 3 ≤ k →
      ∃ ac', railplankeep_Network.l1 k (ev.length : Int) x7 l i p ev ac = some (p, ev, ac') ∧ NetOk p ev ac' := by
  induction d with
  | zero =>
    intro k x7 i ac hx hlen h0 h1 ha hk
    obtain ⟨k, rfl⟩ : ∃ m, k = m + 2 := ⟨k - 2, by omega⟩
    refine ⟨ac, ?_, ⟨hp1, hp2, he1, he2, by omega, ha⟩⟩
    simp only [railplankeep_Network.l1]
    rw [if_neg (by omega)]
    simp [railplankeep_Network.j2]
  | succ d ih =>
    intro k x7 i ac hx hlen h0 h1 ha hk
    obtain ⟨k, rfl⟩ : ∃ m, k = m + 2 := ⟨k - 2, by omega⟩
    simp only [railplankeep_Network.l1]
    rw [if_pos (by omega)]
    simp only [railplankeep_Network.j2]
    by_cases hm : (ev.length : Int) > 1
    · rw [if_pos (decide_eq_true hm)]
      obtain ⟨v1, j1, e1, a1, b1, c1, d1⟩ := next_ev l i 6 hl h0 h1 (by omega) (by omega)
      obtain ⟨v2, j2, e2, a2, b2, c2, d2⟩ := next_ev l j1 (ev.length : Int) hl c1 d1 (by omega) (by omega)
      obtain ⟨v3, j3, e3, a3, b3, c3, d3⟩ := next_ev l j2 5 hl c2 d2 (by omega) (by omega)
      have w1 : wrap64 ((ev.length : Int) - 1) = (ev.length : Int) - 1 := w64 _ (by omega) (by omega)
      obtain ⟨v4, j4, e4, a4, b4, c4, d4⟩ := next_ev l j3 ((ev.length : Int) - 1) hl c3 d3 (by omega) (by omega)
      have w2 : wrap64 (3 * p) = 3 * p := w64 _ (by omega) (by omega)
      obtain ⟨v5, j5, e5, a5, b5, c5, d5⟩ := next_ev l j4 (3 * p) hl c4 d4 (by omega) (by omega)
      obtain ⟨v6, j6, e6, a6, b6, c6, d6⟩ := next_ev l j5 p hl c5 d5 (by omega) (by omega)
      rw [e1]; simp only [Option.bind_some]
      rw [e2]; simp only [Option.bind_some]
      rw [e3]; simp only [Option.bind_some]
      rw [w1, e4]; simp only [Option.bind_some]
      rw [if_neg (by omega), w2, e5]; simp only [Option.bind_some]
      rw [e6]; simp only [Option.bind_some]
      rw [if_pos (by omega), w64 (x7 - 1) (by omega) (by omega)]
      have z1 : wrap64 (1 + v1) = 1 + v1 := w64 _ (by omega) (by omega)
      have z2 : wrap64 (wrap64 (v2 + 1) + v4) = v2 + 1 + v4 := by rw [w64 (v2 + 1) (by omega) (by omega), w64 _ (by omega) (by omega)]
      have z3 : wrap64 (v5 - p) = v5 - p := w64 _ (by omega) (by omega)
      have z4 : wrap64 (v5 - p + v6) = v5 - p + v6 := w64 _ (by omega) (by omega)
      rw [z1, z2, z3, z4]
      have tm : Int.tmod (v2 + 1 + v4) (ev.length : Int) = (v2 + 1 + v4) % (ev.length : Int) := Int.tmod_eq_emod_of_nonneg (by omega)
      have t0 := Int.emod_nonneg (v2 + 1 + v4) (show (ev.length : Int) ≠ 0 by omega)
      have t1 := Int.emod_lt_of_pos (v2 + 1 + v4) (show 0 < (ev.length : Int) by omega)
      have t2 : (v2 + 1 + v4) % (ev.length : Int) ≠ v2 := by
        intro h
        by_cases hc : v2 + 1 + v4 < (ev.length : Int)
        · rw [Int.emod_eq_of_lt (by omega) hc] at h; omega
        · have h3 : (v2 + 1 + v4) % (ev.length : Int) = (v2 + 1 + v4 - (ev.length : Int)) := by
            rw [← Int.sub_emod_right, Int.emod_eq_of_lt (by omega) (by omega)]
          omega
      refine ih k (x7 - 1) j6 _ (by omega) (by simp; omega) c6 d6 ?_ (by omega)
      intro x hx
      rcases List.mem_append.1 hx with hx | hx
      · exact ha x hx
      · rw [List.mem_singleton.1 hx]
        dsimp only
        rw [tm]
        exact ⟨⟨a2, by omega⟩, ⟨t0, t1⟩, fun h => t2 h.symm, ⟨by omega, by omega⟩, by omega, by omega, by omega, by omega⟩
    · rw [if_neg (by simpa using hm)]
      exact ⟨ac, rfl, ⟨hp1, hp2, he1, he2, by omega, ha⟩⟩

theorem net_l0 (p : Int) (hp1 : 2 ≤ p) (hp2 : p ≤ 9) (l : List Int) (hl : l.length ≤ 1152921504606846976) (d : Nat) :
    ∀ (k : Nat) (x5 i : Int) (ev : List S46), x5 = d → 1 ≤ ev.length + d → ev.length + d ≤ 5 → 0 ≤ i → i ≤ l.length → d + 21 ≤ k →
      ∃ ev' ac', railplankeep_Network.l0 k x5 l i p ev = some (p, ev', ac') ∧ NetOk p ev' ac' := by
  induction d with
  | zero =>
    intro k x5 i ev hx h1 h2 h0 hi hk
    obtain ⟨k, rfl⟩ : ∃ m, k = m + 1 := ⟨k - 1, by omega⟩
    simp only [railplankeep_Network.l0]
    rw [if_neg (by omega)]
    obtain ⟨v, j, e, a, b, c, d⟩ := next_ev l i 9 hl h0 hi (by omega) (by omega)
    rw [e]; simp only [Option.bind_some]
    obtain ⟨ac', h⟩ := net_l1 p hp1 hp2 l hl ev (by omega) (by omega) v.toNat k v j [] (by omega) (by simp; omega) c d (by simp) (by omega)
    exact ⟨ev, ac', h⟩
  | succ d ih =>
    intro k x5 i ev hx h1 h2 h0 hi hk
    obtain ⟨k, rfl⟩ : ∃ m, k = m + 1 := ⟨k - 1, by omega⟩
    simp only [railplankeep_Network.l0]
    rw [if_pos (by omega)]
    obtain ⟨v1, j1, e1, a1, b1, c1, d1⟩ := next_ev l i 2 hl h0 hi (by omega) (by omega)
    obtain ⟨v2, j2, e2, a2, b2, c2, d2⟩ := next_ev l j1 3 hl c1 d1 (by omega) (by omega)
    obtain ⟨v3, j3, e3, a3, b3, c3, d3⟩ := next_ev l j2 3 hl c2 d2 (by omega) (by omega)
    rw [e1]; simp only [Option.bind_some]
    rw [e2]; simp only [Option.bind_some]
    rw [e3]; simp only [Option.bind_some]
    rw [if_pos (by omega), w64 (x5 - 1) (by omega) (by omega)]
    exact ih k (x5 - 1) j3 _ (by omega) (by simp; omega) (by simp; omega) c3 d3 (by omega)

/-- The generated network. -/
theorem net_ok (l : List Int) (hl : l.length ≤ 1152921504606846976) : ∃ p ev ac, (∀ k, 60 ≤ k → railplankeep_Network.f k l = some (p, ev, ac)) ∧ NetOk p ev ac := by
  obtain ⟨v1, j1, e1, a1, b1, c1, d1⟩ := next_ev l 0 8 hl (by omega) (by omega) (by omega) (by omega)
  obtain ⟨v2, j2, e2, a2, b2, c2, d2⟩ := next_ev l j1 5 hl c1 d1 (by omega) (by omega)
  have w1 : wrap64 (1 + v2) = 1 + v2 := w64 _ (by omega) (by omega)
  have w2 : wrap64 (2 + v1) = 2 + v1 := w64 _ (by omega) (by omega)
  obtain ⟨ev, ac, h, ok⟩ := net_l0 (2 + v1) (by omega) (by omega) l hl (1 + v2).toNat 60 (1 + v2) j2 [] (by omega) (by simp; omega) (by simp; omega) c2 d2 (by omega)
  refine ⟨2 + v1, ev, ac, fun k hk => ?_, ok⟩
  have hf : railplankeep_Network.f 60 l = some (2 + v1, ev, ac) := by
    unfold railplankeep_Network.f railplankeep_From.f
    simp only [Option.bind_some]
    rw [e1]; simp only [Option.bind_some]
    rw [e2]; simp only [Option.bind_some]
    rw [w1, w2]; exact h
  exact at_rounds (fun k => railplankeep_Network.mono l k) hk hf

theorem NetOk.bad {p : Int} {ev : List S46} {ac : List S31} (h : NetOk p ev ac) : network_Check.b p ev ac = true := by
  unfold network_Check.b
  have := h.p1; have := h.p2; have := h.e2; have := h.a2
  rw [decide_eq_true (by omega), decide_eq_true (by omega), decide_eq_true (by omega), decide_eq_true (by omega)]
  simp only [Bool.true_and, Bool.not_eq_true', List.any_eq_false]
  intro x hx
  obtain ⟨a, b, c, d, e, f, g⟩ := h.a x hx
  unfold network_Check.bad
  have w : wrap64 (x.f4 - x.f3) = x.f4 - x.f3 := w64 _ (by omega) (by omega)
  rw [w, decide_eq_true (show 0 ≤ x.f1 from a.1), decide_eq_true (show x.f1 ≤ (ev.length : Int) - 1 by omega), decide_eq_true (show 0 ≤ x.f2 from b.1), decide_eq_true (show x.f2 ≤ (ev.length : Int) - 1 by omega), decide_eq_false (show ¬ x.f3 < -65536 by omega), decide_eq_false (show ¬ x.f4 < x.f3 by omega), decide_eq_false (show ¬ 65536 < x.f4 by omega), decide_eq_false (show ¬ p ≤ x.f4 - x.f3 by omega), decide_eq_true (show 0 ≤ x.f5 from g.1), decide_eq_true (show x.f5 ≤ 1048576 by omega), beq_eq_false_iff_ne.mpr c]
  simp

theorem times_l0 (p : Int) (hp1 : 1 ≤ p) (hp2 : p ≤ 4611686018427387904) (ev : List S46) (ac : List S31) (l : List Int) (hl : l.length ≤ 1152921504606846976) (n : Nat) (hn : n ≤ 1048576) (d : Nat) :
    ∀ (k : Nat) (x16 i : Int) (t : List Int), t.length = n → 0 ≤ x16 → x16 + d = n → (∀ y ∈ t, 0 ≤ y ∧ y ≤ p - 1) → 0 ≤ i → i ≤ l.length → d < k →
      ∃ t', railplankeep_Times.l0 k t (n : Int) x16 p ev ac l i = some t' ∧ t'.length = n ∧ ∀ y ∈ t', 0 ≤ y ∧ y ≤ p - 1 := by
  induction d with
  | zero =>
    intro k x16 i t ht h0 hx hy hi hi2 hk
    obtain ⟨k, rfl⟩ : ∃ m, k = m + 1 := ⟨k - 1, by omega⟩
    exact ⟨t, by simp only [railplankeep_Times.l0]; rw [if_neg (by omega)], ht, hy⟩
  | succ d ih =>
    intro k x16 i t ht h0 hx hy hi hi2 hk
    obtain ⟨k, rfl⟩ : ∃ m, k = m + 1 := ⟨k - 1, by omega⟩
    simp only [railplankeep_Times.l0]
    rw [if_pos (by omega)]
    obtain ⟨v, j, e, a, b, c, d'⟩ := next_ev l i p hl hi hi2 hp1 hp2
    rw [e]; simp only [Option.bind_some]
    rw [if_pos h0, if_pos (by omega), w64 (x16 + 1) (by omega) (by omega)]
    refine ih k (x16 + 1) j _ (by simpa using ht) (by omega) (by omega) (fun y hm => ?_) c d' (by omega)
    rcases List.mem_or_eq_of_mem_set hm with hm | rfl
    · exact hy y hm
    · exact ⟨a, by omega⟩

theorem times_ok {p : Int} {ev : List S46} {ac : List S31} (h : NetOk p ev ac) (l : List Int) (hl : l.length ≤ 1152921504606846976) :
    ∃ t, (∀ k, 10 ≤ k → railplankeep_Times.f k p ev ac l = some t) ∧ t.length = ev.length ∧ ∀ y ∈ t, 0 ≤ y ∧ y ≤ p - 1 := by
  have := h.p1; have := h.p2; have := h.e2
  obtain ⟨t, e, a, b⟩ := times_l0 p (by omega) (by omega) ev ac l hl ev.length (by omega) ev.length 10 0 0 (List.replicate ev.length 0) (by simp) (by omega) (by omega)
    (fun y hy => by rw [(List.mem_replicate.1 hy).2]; omega) (by omega) (by omega) (by omega)
  refine ⟨t, fun k hk => ?_, a, b⟩
  have hf : railplankeep_Times.f 10 p ev ac l = some t := by
    unfold railplankeep_Times.f railplankeep_From.f
    simp only [Option.bind_some]
    rw [if_pos (by omega), if_pos (by omega)]
    have e1 : ((ev.length : Int)).toNat = ev.length := by omega
    rw [e1]; simp only [List.length_replicate]; exact e
  exact at_rounds (fun k => railplankeep_Times.mono p ev ac l k) hk hf

theorem NetOk.good {p : Int} {ev : List S46} {ac : List S31} (h : NetOk p ev ac) {t : List Int} (ht : t.length = ev.length) (hy : ∀ y ∈ t, 0 ≤ y ∧ y ≤ p - 1) : network_Good.b p ev ac t = true := by
  unfold network_Good.b
  rw [h.bad, decide_eq_true ht]
  simp only [Bool.true_and, Bool.not_eq_true', List.any_eq_false]
  intro y hm
  rw [decide_eq_true (hy y hm).1, decide_eq_true (hy y hm).2]; simp

theorem rd_mem (ac : List S31) (i : Int) (h0 : 0 ≤ i) (h1 : i < ac.length) : rd_T31 ac i ∈ ac := by
  unfold rd_T31
  have hl : i.toNat < ac.length := by omega
  rw [List.getD_eq_getElem?_getD, List.getElem?_eq_getElem hl]; exact List.getElem_mem hl

theorem dur_ok {p : Int} {ev : List S46} {ac : List S31} {t : List Int} (g : network_Good.b p ev ac t = true) (i : Int) (h0 : 0 ≤ i) (h1 : i < ac.length) :
    network_Duration.f p ev ac t i = some (network_lasts.v p t (rd_T31 ac i)) := by
  have IS := network_Good.is g
  obtain ⟨a, b, c, d, e, f, _⟩ := IS.ac _ (rd_mem ac i h0 h1)
  have hla := IS.la
  unfold network_Duration.f
  rw [network_within.eq, w64 ((ac.length : Int) - 1) (by omega) (by omega), decide_eq_true h0, decide_eq_true (show i ≤ (ac.length : Int) - 1 by omega)]
  simp only [Option.bind_some, Bool.and_self, if_true]
  unfold network_Good.f
  rw [g]
  simp only [Option.bind_some, if_true]
  rw [if_pos h0, if_pos h1, network_lasts.eq p ev ac t _ IS.p1 IS.p2 IS.ts a b ⟨d, by omega⟩]
  rfl

theorem feas_ok {p : Int} {ev : List S46} {ac : List S31} {t : List Int} (g : network_Good.b p ev ac t = true) :
    network_Feasible.f p ev ac t = some (ac.all (fun x => decide (network_lasts.v p t x ≤ x.f4))) := by
  unfold network_Feasible.f network_First.f network_First.b
  rw [if_pos g]
  simp only [Option.bind_some]
  rw [act_ix_any]
  unfold network_Good.f
  rw [g]
  have e : ac.all (fun x => decide (network_lasts.v p t x ≤ x.f4)) = !(ac.any (fun x => decide (x.f4 < network_lasts.v p t x))) := by
    rw [List.not_any_eq_all_not]
    congr 1
    funext x
    by_cases h : x.f4 < network_lasts.v p t x
    · rw [decide_eq_true h, decide_eq_false (by omega)]; rfl
    · rw [decide_eq_false h, decide_eq_true (by omega)]; rfl
  rw [e]
  cases ac.any (fun x => decide (x.f4 < network_lasts.v p t x)) <;> rfl

theorem awake_ok : railplanlaw11_awake.f = some true := by kernel_rfl

end Go.Proofs.Ytapnkefhihgbbaa.Pure
