/- The pure side of NetworkDurations: on a generated network with generated times each duration is in its range and congruent, and feasible means that all are at most Max. No condition. -/
import Derived.Test.YtapnkefhihgbbaaPAllxf4
import Derived.Test.YtapnkefhihgbbaaNetA
namespace Go.Proofs.Ytapnkefhihgbbaa.Pure
open Go.RowKit Go.Proofs.Ytapnkefhihgbbaa.PAll Go.Proofs.YtapnkefhihgbbaaW.PrintWords Go.Proofs.YtapnkefhihgbbaaW.PrintLast

theorem refMod_eq (a m : Int) (h1 : 1 ≤ m) (h2 : m ≤ 4611686018427387904) : railplanref1_Mod.f a m = some (a % m) := arith_Mod.eq a m h1 h2

theorem durations_l0 {p : Int} {ev : List S46} {ac : List S31} (ok : NetOk p ev ac) {t : List Int} (ht : t.length = ev.length) (hy : ∀ y ∈ t, 0 ≤ y ∧ y ≤ p - 1) (d : Nat) :
    ∀ (k j : Nat), j + d = ac.length → d < k →
      railplanlaw11_NetworkDurations.l0 k t ((ac.take j).all (fun x => decide (network_lasts.v p t x ≤ x.f4))) (ac.length : Int) (j : Int) p ev ac = some true := by
  have g := ok.good ht hy
  induction d with
  | zero =>
    intro k j hj hk
    obtain ⟨k, rfl⟩ : ∃ m, k = m + 1 := ⟨k - 1, by omega⟩
    simp only [railplanlaw11_NetworkDurations.l0]
    rw [if_neg (by omega), awake_ok]
    simp only [Option.bind_some, if_true]
    rw [feas_ok g]
    simp only [Option.bind_some]
    have e : ac.take j = ac := List.take_of_length_le (by omega)
    rw [e]; simp
  | succ d ih =>
    intro k j hj hk
    obtain ⟨k, rfl⟩ : ∃ m, k = m + 1 := ⟨k - 1, by omega⟩
    have h0 : (0 : Int) ≤ (j : Int) := by omega
    have h1 : (j : Int) < (ac.length : Int) := by omega
    have hl : j < ac.length := by omega
    have := ok.p1; have := ok.p2; have := ok.a2
    simp only [railplanlaw11_NetworkDurations.l0]
    rw [if_pos h1, if_pos h0, if_pos h1, dur_ok g (j : Int) h0 h1]
    simp only [Option.bind_some]
    have hr : rd_T31 ac (j : Int) = ac[j] := by
      unfold rd_T31; rw [Int.toNat_natCast, List.getD_eq_getElem?_getD, List.getElem?_eq_getElem hl]; rfl
    rw [hr]
    obtain ⟨a, b, c, e, f, f2, _⟩ := ok.a _ (List.getElem_mem hl)
    have hrd : ∀ i : Int, 0 ≤ i → i < ev.length → 0 ≤ rd t i ∧ rd t i ≤ p - 1 := fun i h0 h1 => by
      unfold rd
      have hl : i.toNat < t.length := by omega
      rw [List.getD_eq_getElem?_getD, List.getElem?_eq_getElem hl]
      exact hy _ (List.getElem_mem hl)
    have r1 := hrd _ a.1 a.2
    have r2 := hrd _ b.1 b.2
    have hts := List.take_succ_eq_append_getElem hl
    have hv : network_lasts.v p t ac[j] = ac[j].f3 + (rd t ac[j].f2 - rd t ac[j].f1 - ac[j].f3) % p := rfl
    have m0 := Int.emod_nonneg (rd t ac[j].f2 - rd t ac[j].f1 - ac[j].f3) (show p ≠ 0 by omega)
    have m1 := Int.emod_lt_of_pos (rd t ac[j].f2 - rd t ac[j].f1 - ac[j].f3) (show 0 < p by omega)
    have me := Int.emod_add_mul_ediv (rd t ac[j].f2 - rd t ac[j].f1 - ac[j].f3) p
    generalize hq : (rd t ac[j].f2 - rd t ac[j].f1 - ac[j].f3) / p = q at me
    generalize hm : (rd t ac[j].f2 - rd t ac[j].f1 - ac[j].f3) % p = m at m0 m1 me hv
    rw [hv, if_neg (by omega), w64 (ac[j].f3 + p) (by omega) (by omega), if_neg (by omega), if_pos b.1, if_pos (by omega), if_pos a.1, if_pos (by omega)]
    rw [w64 (rd t ac[j].f2 - rd t ac[j].f1) (by omega) (by omega), w64 (ac[j].f3 + m - (rd t ac[j].f2 - rd t ac[j].f1)) (by omega) (by omega), refMod_eq _ _ (by omega) (by omega)]
    simp only [Option.bind_some]
    have z : (ac[j].f3 + m - (rd t ac[j].f2 - rd t ac[j].f1)) % p = 0 := by
      have : ac[j].f3 + m - (rd t ac[j].f2 - rd t ac[j].f1) = p * (-q) := by rw [Int.mul_neg]; omega
      rw [this]; exact Int.mul_emod_right ..
    rw [if_pos z, w64 ((j : Int) + 1) (by omega) (by omega)]
    have h := ih k (j + 1) (by omega) (by omega)
    rw [hts, List.all_append, List.all_cons, List.all_nil, Bool.and_true, hv] at h
    have ej : ((j + 1 : Nat) : Int) = (j : Int) + 1 := by omega
    rw [ej] at h
    cases hall : (ac.take j).all (fun x => decide (network_lasts.v p t x ≤ x.f4)) with
    | true => rw [hall] at h; simpa using h
    | false => rw [hall] at h; simpa using h

theorem NetworkDurations : railplanlaw11_NetworkDurations.Pure := by
  intro l0 l1 _ h0 _ _ h1 _
  obtain ⟨p, ev, ac, hn, ok⟩ := net_ok l0 (by omega)
  obtain ⟨t, ht, hl, hy⟩ := times_ok ok l1 (by omega)
  refine ⟨60, ?_⟩
  unfold railplanlaw11_NetworkDurations.f
  rw [hn 60 (by omega)]; simp only [Option.bind_some]
  rw [ht 60 (by omega)]; simp only [Option.bind_some]
  have := ok.a2
  have h := durations_l0 ok hl hy ac.length 60 0 (by omega) (by omega)
  simpa using h

end Go.Proofs.Ytapnkefhihgbbaa.Pure
