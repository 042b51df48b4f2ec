/- The pure side of NetworkShift: a shift of all times by the same number changes no duration, no cost and nothing of what is feasible. No condition. -/
import Derived.Test.YtapnkefhihgbbaaPAllxf5
import Derived.Test.YtapnkefhihgbbaaNetA
namespace Go.Proofs.Ytapnkefhihgbbaa.Pure
open Go.RowKit Go.Proofs.Ytapnkefhihgbbaa.PAll Go.Proofs.YtapnkefhihgbbaaW.PrintWords Go.Proofs.YtapnkefhihgbbaaW.PrintLast

theorem shift_v {p : Int} {n : Nat} {t : List Int} (ht : t.length = n) (by_ : Int) (x : S31) (ha : 0 ≤ x.f1 ∧ x.f1 < n) (hb : 0 ≤ x.f2 ∧ x.f2 < n) :
    network_lasts.v p (t.map (fun v => (v + by_) % p)) x = network_lasts.v p t x := by
  have hr : ∀ i : Int, 0 ≤ i → i < n → rd (t.map (fun v => (v + by_) % p)) i = (rd t i + by_) % p := fun i h0 h1 => by
    unfold rd
    have hl : i.toNat < t.length := by omega
    rw [List.getD_eq_getElem?_getD, List.getD_eq_getElem?_getD, List.getElem?_map, List.getElem?_eq_getElem hl]; rfl
  unfold network_lasts.v
  rw [hr _ ha.1 ha.2, hr _ hb.1 hb.2]
  have e1 := Int.emod_add_mul_ediv (rd t x.f2 + by_) p
  have e2 := Int.emod_add_mul_ediv (rd t x.f1 + by_) p
  generalize (rd t x.f2 + by_) / p = q2 at e1
  generalize (rd t x.f1 + by_) / p = q1 at e2
  have e : (rd t x.f2 + by_) % p - (rd t x.f1 + by_) % p - x.f3 = (rd t x.f2 - rd t x.f1 - x.f3) + p * (q1 - q2) := by
    rw [Int.mul_sub]; omega
  rw [e, Int.add_mul_emod_self_left]

theorem cost_l0 {p : Int} {ev : List S46} {ac : List S31} (ok : NetOk p ev ac) {t u : List Int} (ht : t.length = ev.length) (hy : ∀ y ∈ t, 0 ≤ y ∧ y ≤ p - 1) (hu : u.length = ev.length) (hz : ∀ y ∈ u, 0 ≤ y ∧ y ≤ p - 1)
    (hv : ∀ x ∈ ac, network_lasts.v p u x = network_lasts.v p t x) (d : Nat) :
    ∀ (k j : Nat) (s : Int), j + d = ac.length → d < k → ∃ c, network_Cost.l0 k t s ac (ac.length : Int) (j : Int) p ev ac = some (c, 0) ∧ network_Cost.l0 k u s ac (ac.length : Int) (j : Int) p ev ac = some (c, 0) := by
  induction d with
  | zero =>
    intro k j s hj hk
    obtain ⟨k, rfl⟩ : ∃ m, k = m + 1 := ⟨k - 1, by omega⟩
    simp only [network_Cost.l0]
    rw [if_neg (by omega), if_neg (by omega)]
    exact ⟨s, rfl, rfl⟩
  | succ d ih =>
    intro k j s hj hk
    obtain ⟨k, rfl⟩ : ∃ m, k = m + 1 := ⟨k - 1, by omega⟩
    have h0 : (0 : Int) ≤ (j : Int) := by omega
    have h1 : (j : Int) < (ac.length : Int) := by omega
    have := ok.p1; have := ok.p2; have := ok.a2
    have hmem := rd_mem ac (j : Int) h0 h1
    obtain ⟨a, b, c, e, f, f2, _⟩ := ok.a _ hmem
    simp only [network_Cost.l0]
    rw [if_pos h1, if_pos h0, if_pos h1, if_pos h1, if_pos h0, if_pos h1]
    rw [network_lasts.eq p ev ac t _ (by omega) (by omega) hy (by omega) (by omega) (by omega), network_lasts.eq p ev ac u _ (by omega) (by omega) hz (by omega) (by omega) (by omega), hv _ hmem]
    simp only [Option.bind_some]
    rw [w64 ((j : Int) + 1) (by omega) (by omega)]
    exact ih k (j + 1) _ (by omega) (by omega)

theorem shift_l0 (by_ p : Int) (hb0 : 0 ≤ by_) (hb1 : by_ < p) (hp : p ≤ 9) (ev : List S46) (ac : List S31) (t : List Int) (hn : t.length ≤ 5) (hy : ∀ y ∈ t, 0 ≤ y ∧ y ≤ p - 1) (r : Bool) (d : Nat) :
    ∀ (k j : Nat), j + d = t.length → d + 21 ≤ k →
      (∀ k', 20 ≤ k' → ((network_Cost.f k' p ev ac t).bind fun bt253 => ((network_Cost.f k' p ev ac (t.map (fun v => (v + by_) % p))).bind fun bt255 => (railplanlaw11_NetworkShift.l1 k' t (t.map (fun v => (v + by_) % p)) bt253.1 bt253.2 bt255.1 bt255.2 (ac.length : Int) 0 p ev ac))) = some r) →
      railplanlaw11_NetworkShift.l0 k by_ t ((t.take j).map (fun v => (v + by_) % p)) (t.length : Int) (j : Int) p ev ac = some r := by
  induction d with
  | zero =>
    intro k j hj hk H
    obtain ⟨k, rfl⟩ : ∃ m, k = m + 1 := ⟨k - 1, by omega⟩
    simp only [railplanlaw11_NetworkShift.l0]
    have hlt : ¬ (j : Int) < (t.length : Int) := by omega
    rw [if_neg hlt, List.take_of_length_le (show t.length ≤ j by omega)]
    exact H k (by omega)
  | succ d ih =>
    intro k j hj hk H
    obtain ⟨k, rfl⟩ : ∃ m, k = m + 1 := ⟨k - 1, by omega⟩
    have hl : j < t.length := by omega
    have hr : rd t (j : Int) = t[j] := by
      unfold rd; rw [Int.toNat_natCast, List.getD_eq_getElem?_getD, List.getElem?_eq_getElem hl]; rfl
    have hyj := hy _ (List.getElem_mem hl)
    simp only [railplanlaw11_NetworkShift.l0]
    rw [if_pos (by omega), if_pos (by omega), if_pos (by omega), if_neg (by omega), if_pos (by simp; omega), hr, w64 (t[j] + by_) (by omega) (by omega), w64 ((j : Int) + 1) (by omega) (by omega)]
    have tm : Int.tmod (t[j] + by_) p = (t[j] + by_) % p := Int.tmod_eq_emod_of_nonneg (by omega)
    have h := ih k (j + 1) (by omega) (by omega) H
    rw [List.take_succ_eq_append_getElem hl, List.map_append] at h
    rw [tm]
    exact h

theorem shift_l1 {p : Int} {ev : List S46} {ac : List S31} (ok : NetOk p ev ac) {t u : List Int} (ht : t.length = ev.length) (hy : ∀ y ∈ t, 0 ≤ y ∧ y ≤ p - 1) (hu : u.length = ev.length) (hz : ∀ y ∈ u, 0 ≤ y ∧ y ≤ p - 1)
    (hv : ∀ x ∈ ac, network_lasts.v p u x = network_lasts.v p t x) (c : Int) (d : Nat) :
    ∀ (k j : Nat), j + d = ac.length → d < k → railplanlaw11_NetworkShift.l1 k t u c 0 c 0 (ac.length : Int) (j : Int) p ev ac = some true := by
  have g := ok.good ht hy
  have g2 := ok.good hu hz
  induction d with
  | zero =>
    intro k j hj hk
    obtain ⟨k, rfl⟩ : ∃ m, k = m + 1 := ⟨k - 1, by omega⟩
    simp only [railplanlaw11_NetworkShift.l1]
    rw [if_neg (by omega), awake_ok]
    simp only [Option.bind_some, if_true]
    rw [feas_ok g, feas_ok g2]
    simp only [Option.bind_some]
    have e : ac.all (fun x => decide (network_lasts.v p u x ≤ x.f4)) = ac.all (fun x => decide (network_lasts.v p t x ≤ x.f4)) := by
      rw [Bool.eq_iff_iff, List.all_eq_true, List.all_eq_true]
      exact ⟨fun h x hx => by rw [← hv x hx]; exact h x hx, fun h x hx => by rw [hv x hx]; exact h x hx⟩
    rw [e]; simp
  | succ d ih =>
    intro k j hj hk
    obtain ⟨k, rfl⟩ : ∃ m, k = m + 1 := ⟨k - 1, by omega⟩
    have h0 : (0 : Int) ≤ (j : Int) := by omega
    have h1 : (j : Int) < (ac.length : Int) := by omega
    have := ok.a2
    simp only [railplanlaw11_NetworkShift.l1]
    rw [if_pos h1, dur_ok g _ h0 h1, dur_ok g2 _ h0 h1, hv _ (rd_mem ac _ h0 h1)]
    simp only [Option.bind_some, if_true]
    rw [w64 ((j : Int) + 1) (by omega) (by omega)]
    exact ih k (j + 1) (by omega) (by omega)

theorem NetworkShift : railplanlaw11_NetworkShift.Pure := by
  intro l0 l1 a2 _ h0 _ _ h1 _ _
  obtain ⟨p, ev, ac, hn, ok⟩ := net_ok l0 (by omega)
  obtain ⟨t, ht, hl, hy⟩ := times_ok ok l1 (by omega)
  have := ok.p1; have := ok.p2; have := ok.e2; have := ok.a2
  obtain ⟨b, hb, b0, b1⟩ := pick_ev a2 p (by omega) (by omega)
  have hu : (t.map (fun v => (v + b) % p)).length = ev.length := by rw [List.length_map]; exact hl
  have hz : ∀ y ∈ t.map (fun v => (v + b) % p), 0 ≤ y ∧ y ≤ p - 1 := fun y hm => by
    obtain ⟨v, hv, rfl⟩ := List.mem_map.1 hm
    have m0 := Int.emod_nonneg (v + b) (show p ≠ 0 by omega)
    have m1 := Int.emod_lt_of_pos (v + b) (show 0 < p by omega)
    exact ⟨m0, by omega⟩
  have hv : ∀ x ∈ ac, network_lasts.v p (t.map (fun v => (v + b) % p)) x = network_lasts.v p t x := fun x hx => by
    obtain ⟨a, b, _⟩ := ok.a x hx
    exact shift_v hl _ x a b
  refine ⟨60, ?_⟩
  unfold railplanlaw11_NetworkShift.f
  rw [hn 60 (by omega)]; simp only [Option.bind_some]
  rw [ht 60 (by omega)]; simp only [Option.bind_some]
  rw [hb]; simp only [Option.bind_some]
  have h := shift_l0 b p b0 b1 ok.p2 ev ac t (by omega) hy true t.length 60 0 (by omega) (by omega) (fun k' hk' => by
    obtain ⟨c, c1, c2⟩ := cost_l0 ok hl hy hu hz hv ac.length k' 0 0 (by omega) (by omega)
    have e1 : network_Cost.f k' p ev ac t = some (c, 0) := by
      unfold network_Cost.f network_Good.f
      rw [ok.good hl hy]; simp only [Option.bind_some, if_true]; exact c1
    have e2 : network_Cost.f k' p ev ac (t.map (fun v => (v + b) % p)) = some (c, 0) := by
      unfold network_Cost.f network_Good.f
      rw [ok.good hu hz]; simp only [Option.bind_some, if_true]; exact c2
    rw [e1, e2]; simp only [Option.bind_some]
    exact shift_l1 ok hl hy hu hz hv c ac.length k' 0 (by omega) (by omega))
  simpa using h

end Go.Proofs.Ytapnkefhihgbbaa.Pure
