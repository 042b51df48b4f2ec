/- The pure side of PlatformTooMany: as many visits hold a residue as have tracks marked, or nothing is found. No condition. -/
import Derived.Test.YtdgdjbehddeepaaPlatF
import Derived.Test.YtdgdjbehddeepaaPAllxf5
namespace Go.Proofs.Ytdgdjbehddeepaa.Pure
set_option linter.unusedVariables false
set_option linter.unusedSimpArgs false
open Go.RowKit Go.Proofs.Ytdgdjbehddeepaa.PAll Go.Proofs.YtdgdjbehddeepaaW.PrintWords Go.Proofs.YtdgdjbehddeepaaW.PrintLast
theorem tm_len4 {t : Int} {v : List SV} (h : ∀ x ∈ v, okG t x) : ∀ i : Nat, i < v.length → (rd_T28 v i).f2.length ≤ 4 := fun i hi => by
  have := h _ (mem_rd v i hi)
  exact okT_len _ this.2.2.1 this.2.2.2
theorem getD_set (bs : List Bool) (c k : Nat) (x : Bool) (hc : c < bs.length) : (bs.set k x).getD c false = if k = c then x else bs.getD c false := by
  rw [List.getD_eq_getElem?_getD, List.getD_eq_getElem?_getD, List.getElem?_set]
  by_cases h : k = c
  · rw [if_pos h, if_pos h, if_pos (by omega)]; rfl
  · rw [if_neg h, if_neg h]
theorem mark_keep : ∀ (tr : List Int) (bs : List Bool) (c : Nat), c < bs.length → bs.getD c false = true → (tmMark tr bs).getD c false = true
  | [], bs, c, hc, h => h
  | y :: tr, bs, c, hc, h => by
    show (tmMark tr (bs.set y.toNat true)).getD c false = true
    refine mark_keep tr _ c (by simpa using hc) ?_
    rw [getD_set bs c _ _ hc]
    split
    · rfl
    · exact h
theorem mark_mem : ∀ (tr : List Int) (bs : List Bool) (c : Nat), c < bs.length → (c : Int) ∈ tr → (tmMark tr bs).getD c false = true
  | [], bs, c, hc, h => by cases h
  | y :: tr, bs, c, hc, h => by
    show (tmMark tr (bs.set y.toNat true)).getD c false = true
    rcases List.mem_cons.1 h with h | h
    · refine mark_keep tr _ c (by simpa using hc) ?_
      rw [getD_set bs c _ _ hc, if_pos (by omega)]
    · exact mark_mem tr _ c (by simpa using hc) h
theorem four (bs : List Bool) (h : bs.length = 4) : ∃ a b c d, bs = [a, b, c, d] := by
  match bs, h with
  | [a, b, c, d], _ => exact ⟨a, b, c, d, rfl⟩
theorem cnt_set (U : List Bool) (hU : U.length = 4) (k : Nat) (hk : k < 4) (h : U.getD k false = false) : tmCnt (U.set k true) 4 = tmCnt U 4 + 1 := by
  obtain ⟨a, b, c, d, rfl⟩ := four U hU
  have e : k = 0 ∨ k = 1 ∨ k = 2 ∨ k = 3 := by omega
  rcases e with rfl | rfl | rfl | rfl <;> cases a <;> cases b <;> cases c <;> cases d <;> first | rfl | (exact absurd h (by decide))
theorem cnt_le (U B : List Bool) (hU : U.length = 4) (hB : B.length = 4) (h : ∀ c : Nat, c < 4 → U.getD c false = true → B.getD c false = true) : tmCnt U 4 ≤ tmCnt B 4 := by
  obtain ⟨a, b, c, d, rfl⟩ := four U hU
  obtain ⟨a', b', c', d', rfl⟩ := four B hB
  have h0 : a = true → a' = true := h 0 (by omega)
  have h1 : b = true → b' = true := h 1 (by omega)
  have h2 : c = true → c' = true := h 2 (by omega)
  have h3 : d = true → d' = true := h 3 (by omega)
  simp only [tmCnt, List.getD_cons_zero, List.getD_cons_succ]
  cases a <;> cases b <;> cases c <;> cases d <;> cases a' <;> cases b' <;> cases c' <;> cases d' <;> first | decide | (exact absurd (h0 rfl) (by decide)) | (exact absurd (h1 rfl) (by decide)) | (exact absurd (h2 rfl) (by decide)) | (exact absurd (h3 rfl) (by decide))
theorem tm_few (t : Int) (ht : 0 < t) (v : List SV) (hok : ∀ x ∈ v, okG t x) (sx : Int) (m : Nat → Int) (hm : ∀ i : Nat, m i = (sx - (rd_T28 v i).f0) % t) (x : List Int) (hx : properB t v x = true) :
    ∀ i : Nat, i ≤ v.length → ∃ U : List Bool, U.length = 4 ∧ (tmRun v m i).1 = tmCnt U 4 ∧ ∀ c : Nat, c < 4 → U.getD c false = true → (tmRun v m i).2.getD c false = true ∧ ∃ j : Nat, j < i ∧ m j < (rd_T28 v j).f1 ∧ rd x j = c := by
  unfold properB at hx
  rw [Bool.and_eq_true, Bool.and_eq_true, decide_eq_true_eq, allF_iff] at hx
  obtain ⟨⟨_, hxl⟩, hone⟩ := hx
  intro i
  induction i with
  | zero => intro _; exact ⟨[false, false, false, false], rfl, rfl, fun c hc h => by
      have e : c = 0 ∨ c = 1 ∨ c = 2 ∨ c = 3 := by omega
      rcases e with rfl | rfl | rfl | rfl <;> exact absurd h (by decide)⟩
  | succ i ih =>
    intro hi
    obtain ⟨U, hU, hcnt, hall⟩ := ih (by omega)
    by_cases hh : m i < (rd_T28 v i).f1
    · have ho := hone i (by omega) (by omega)
      unfold oneB at ho
      rw [Bool.and_eq_true, List.contains_iff_mem] at ho
      obtain ⟨hmem, hfit⟩ := ho
      have hbd := (hok _ (mem_rd v i (by omega))).2.2.2 _ hmem
      obtain ⟨c, hc⟩ := Int.eq_ofNat_of_zero_le hbd.1
      have hc4 : c < 4 := by have := hbd.2; omega
      rw [hc] at hmem
      have hl4 := (tmRun_bd v m i).2.2
      have hfree : U.getD c false = false := by
        cases hu : U.getD c false with
        | false => rfl
        | true =>
          obtain ⟨_, j, hj, hmj, hxj⟩ := hall c hc4 hu
          unfold fitsB at hfit
          rw [allF_iff] at hfit
          have hlen : (x.take i).length = i := by rw [List.length_take]; omega
          have := hfit j (by omega) (by rw [hlen]; exact hj)
          rw [rd_take _ _ _ hj, hlen, hxj, hc, decide_eq_true rfl, Bool.true_and] at this
          rw [ov_of_common t ht _ _ sx (by unfold holds; rw [← hm]; exact decide_eq_true hmj) (by unfold holds; rw [← hm]; exact decide_eq_true hh)] at this
          cases this
      refine ⟨U.set c true, by rw [List.length_set]; exact hU, ?_, fun k hk h => ?_⟩
      · rw [cnt_set U hU c hc4 hfree, ← hcnt]
        simp only [tmRun]
        rw [if_pos hh]
      · rw [getD_set U k c _ (by omega)] at h
        have e : (tmRun v m (i + 1)).2 = tmMark (rd_T28 v i).f2 (tmRun v m i).2 := by
          simp only [tmRun]
          rw [if_pos hh]
        rw [e]
        by_cases hck : c = k
        · subst hck
          exact ⟨mark_mem _ _ _ (by omega) hmem, i, by omega, hh, hc⟩
        · rw [if_neg hck] at h
          obtain ⟨q1, j, q2, q3, q4⟩ := hall k hk h
          exact ⟨mark_keep _ _ _ (by omega) q1, j, by omega, q3, q4⟩
    · have e : tmRun v m (i + 1) = tmRun v m i := by
        simp only [tmRun]
        rw [if_neg hh]
      rw [e]
      exact ⟨U, hU, hcnt, fun c hc h => by
        obtain ⟨q1, j, q2, q3, q4⟩ := hall c hc h
        exact ⟨q1, j, by omega, q3, q4⟩⟩
theorem PlatformTooMany : railplanlaw20_PlatformTooMany.Pure := by
  intro a0 l1 a2 h1
  obtain ⟨p, hp, hp0, hp1⟩ := pick_f a0 30 (by omega) (by omega)
  obtain ⟨v, hv, hv7, hok⟩ := visits_ev (2 + p) (by omega) (by omega) l1 (by omega)
  obtain ⟨sx, hsx, hs0, hs1⟩ := pick_f a2 (2 + p) (by omega) (by omega)
  obtain ⟨Ka, ha⟩ := awake_ev
  obtain ⟨Kv, hv⟩ := hv
  obtain ⟨Kb, hb⟩ := assign_ev (2 + p) v 262144
  have hvld := okG_vld (2 + p) v (by omega) (by omega) (by omega) hok
  refine ⟨Ka + Kv + Kb, p, sx, v, fun i => (sx - (rd_T28 v i).f0) % (2 + p), (asgB (2 + p) v 262144).1, (asgB (2 + p) v 262144).2.1, (asgB (2 + p) v 262144).2.2, hp, hp0, hp1, hv _ (by omega), hsx, ha _ (by omega), hv7, fun i hi => ?_, hb _ (by omega), ?_⟩
  · have g := hok _ (mem_rd v i hi)
    have g0 := g.1
    refine ⟨?_, by have := tm_len4 hok i hi; omega, g.2.2.2⟩
    rw [w64 _ (by omega) (by omega)]
    exact rmod _ _ (by omega) (by omega) (by omega) (by omega)
  · rcases asg_first (2 + p) v hvld hv7 (tm_len4 hok) 262144 (by omega) (by omega) with ⟨o, u, e, _, _, hpo, _⟩ | ⟨u, e, _⟩
    · left
      obtain ⟨U, hU, hcnt, hall⟩ := tm_few (2 + p) (by omega) v hok sx _ (fun i => rfl) o hpo v.length (Nat.le_refl _)
      rw [hcnt]
      exact cnt_le U _ hU (tmRun_bd v _ v.length).2.2 (fun c hc h => (hall c hc h).1)
    · right
      rw [e]
end Go.Proofs.Ytdgdjbehddeepaa.Pure
