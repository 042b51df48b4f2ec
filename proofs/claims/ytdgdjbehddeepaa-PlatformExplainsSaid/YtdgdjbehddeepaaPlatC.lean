/- Plain facts about Explain: the program and the reference answer one and the same plain deletion of visits. No condition but those stated. -/
import Derived.Test.YtdgdjbehddeepaaPlatB
import Derived.Test.YtdgdjbehddeepaaPAllxf23
import Derived.Test.YtdgdjbehddeepaaPAllxf36
namespace Go.Proofs.Ytdgdjbehddeepaa.Pure
set_option linter.unusedVariables false
set_option linter.unusedSimpArgs false
open Go.RowKit Go.Proofs.Ytdgdjbehddeepaa.PAll Go.Proofs.YtdgdjbehddeepaaW.PrintWords Go.Proofs.YtdgdjbehddeepaaW.PrintLast
def iota (x n : Nat) : List Int := (List.range' x (n - x)).map (fun j : Nat => (j : Int))
theorem iota_end (x n : Nat) (h : n ≤ x) : iota x n = [] := by unfold iota; rw [Nat.sub_eq_zero_of_le h]; rfl
theorem iota_step (x n : Nat) (h : x < n) : iota x n = (x : Int) :: iota (x + 1) n := by
  unfold iota
  rw [show n - x = (n - (x + 1)) + 1 by omega, List.range'_succ]
  rfl
theorem iota_snoc (x : Nat) : iota 0 (x + 1) = iota 0 x ++ [(x : Int)] := by
  unfold iota
  rw [Nat.sub_zero, Nat.sub_zero, List.range'_concat]
  simp
theorem iota_len (x n : Nat) : (iota x n).length = n - x := by unfold iota; simp
theorem iota_mem (x n : Nat) (y : Int) (h : y ∈ iota x n) : (x : Int) ≤ y ∧ y < n := by
  unfold iota at h
  obtain ⟨j, hj, rfl⟩ := List.mem_map.1 h
  rw [List.mem_range'_1] at hj
  omega
inductive XRes where
  | done (l : List Int) (left : Int)
  | over
def expl (t : Int) (v : List SV) : List Int → List Int → Int → XRes
  | [], kept, left => .done kept left
  | i :: rem, kept, left => if left < 1 then .over else
      if (asgB t ((kept ++ rem).map (rd_T28 v)) left).2.2 = 15 then .over else
      if (asgB t ((kept ++ rem).map (rd_T28 v)) left).2.2 = 14 then expl t v rem kept (left - (asgB t ((kept ++ rem).map (rd_T28 v)) left).2.1)
      else expl t v rem (kept ++ [i]) (left - (asgB t ((kept ++ rem).map (rd_T28 v)) left).2.1)
theorem asg_cases (t : Int) (v : List SV) (bu : Int) (hv : vldB t v = true) (h1 : 1 ≤ bu) (h2 : bu ≤ 1048576) : ∃ o u c, asgB t v bu = (o, u, c) ∧ 0 ≤ u ∧ u ≤ bu ∧ (c = 0 ∨ c = 14 ∨ c = 15) := by
  unfold asgB
  rw [if_pos hv, if_pos ⟨h1, h2⟩]
  cases srch t v v.length [] bu.toNat with
  | found o l => exact ⟨_, _, _, rfl, by omega, by omega, .inl rfl⟩
  | fail l => exact ⟨_, _, _, rfl, by omega, by omega, .inr (.inl rfl)⟩
  | over => exact ⟨_, _, _, rfl, by omega, by omega, .inr (.inr rfl)⟩
theorem asg_14 (t : Int) (v : List SV) (bu : Int) (h : (asgB t v bu).2.2 = 14) : vldB t v = true ∧ 1 ≤ bu ∧ bu ≤ 1048576 := by
  unfold asgB at h
  by_cases hv : vldB t v = true
  · rw [if_pos hv] at h
    by_cases hb : 1 ≤ bu ∧ bu ≤ 1048576
    · exact ⟨hv, hb.1, hb.2⟩
    · rw [if_neg hb] at h; cases h
  · rw [if_neg hv] at h; cases h
theorem rd_map (v : List SV) (L : List Int) (i : Nat) (h : i < L.length) : rd_T28 (L.map (rd_T28 v)) i = rd_T28 v (L[i]) := by
  rw [show rd_T28 (L.map (rd_T28 v)) i = (L.map (rd_T28 v)).getD i z28 from rfl, List.getD_eq_getElem?_getD, List.getElem?_map, List.getElem?_eq_getElem h]
  rfl
theorem vld_map (t : Int) (v : List SV) (L : List Int) (hv : vldB t v = true) (hL : ∀ y ∈ L, 0 ≤ y ∧ y < (v.length : Int)) (hl : L.length ≤ v.length) : vldB t (L.map (rd_T28 v)) = true := by
  obtain ⟨t1, t2, h16, hok⟩ := (vldB_iff _ _).1 hv
  refine (vldB_iff _ _).2 ⟨t1, t2, by rw [List.length_map]; omega, fun i hi => ?_⟩
  rw [List.length_map] at hi
  rw [rd_map v L i hi]
  have := hL L[i] (List.getElem_mem hi)
  have h := hok (L[i]).toNat (by omega)
  rwa [Int.toNat_of_nonneg this.1] at h
theorem rd_get (l : List Int) (i : Nat) (h : i < l.length) : rd l i = l[i] := by unfold rd; rw [Int.toNat_natCast, List.getD_eq_getElem?_getD, List.getElem?_eq_getElem h]; rfl
theorem take_snoc_map {β : Type} (f : Int → β) (L : List Int) (i : Nat) (h : i < L.length) : (L.take i).map f ++ [f (L[i])] = (L.take (i + 1)).map f := by
  rw [List.take_succ_eq_append_getElem h, List.map_append]; rfl
/-! #### the program's loops -/
theorem xl2_ev (t : Int) (v : List SV) (bu left x n : Int) (list rest : List Int) (hr : ∀ y ∈ rest, 0 ≤ y ∧ y < (v.length : Int)) (hl : rest.length ≤ 16) (r : List Int × Int × Int)
    (hcont : Ev (fun k => platform_Explain.l2 k t v bu left list rest (rest.map (rd_T28 v)) n x rest (rest.length : Int) (rest.length : Int)) r) :
    ∀ d i : Nat, i + d = rest.length → Ev (fun k => platform_Explain.l2 k t v bu left list rest ((rest.take i).map (rd_T28 v)) n x rest (rest.length : Int) (i : Int)) r := by
  intro d
  induction d with
  | zero =>
    intro i hi
    obtain rfl : i = rest.length := by omega
    rw [List.take_length]
    exact hcont
  | succ d ih =>
    intro i hi
    have hlt : i < rest.length := by omega
    have hg := rd_get rest i hlt
    have hy := hr rest[i] (List.getElem_mem hlt)
    refine Ev.step (f := fun k => platform_Explain.l2 k t v bu left list rest ((rest.take (i + 1)).map (rd_T28 v)) n x rest (rest.length : Int) ((i + 1 : Nat) : Int)) (fun k => ?_) (ih (i + 1) (by omega))
    simp only [platform_Explain.l2]
    rw [if_pos (by omega), if_pos (by omega), if_pos (by omega), hg, if_pos hy.1, if_pos hy.2, if_pos (by rw [List.length_map, List.length_take]; omega), ws i (by omega), ← take_snoc_map (rd_T28 v) rest i hlt]
def resX (bu : Int) : XRes → List Int × Int × Int
  | .done l left => (l, bu - left, 0)
  | .over => ([], 0, 15)
theorem xl1_ev (t : Int) (v : List SV) (bu : Int) (hb1 : 1 ≤ bu) (hb2 : bu ≤ 1048576) (hv : vldB t v = true) : ∀ (d x : Nat) (kept : List Int) (left : Int), x + d = v.length → (∀ y ∈ kept, 0 ≤ y ∧ y < (x : Int)) → kept.length ≤ x → 0 ≤ left → left ≤ bu →
    Ev (fun k => platform_Explain.l1 k t v bu left (kept ++ iota x v.length) (v.length : Int) (x : Int)) (resX bu (expl t v (iota x v.length) kept left)) := by
  obtain ⟨t1, t2, h16, hok⟩ := (vldB_iff _ _).1 hv
  intro d
  induction d with
  | zero =>
    intro x kept left hx hk hkl h0 h1
    rw [iota_end x v.length (by omega), List.append_nil]
    exact Ev.step (fun k => by simp only [platform_Explain.l1]; rw [if_neg (by omega), w64 _ (by omega) (by omega)]; rfl) (Ev.now _)
  | succ d ih =>
    intro x kept left hx hk hkl h0 h1
    rw [iota_step x v.length (by omega)]
    have hrl : (iota (x + 1) v.length).length = v.length - (x + 1) := iota_len _ _
    obtain ⟨rem, hrem⟩ : ∃ rem, rem = iota (x + 1) v.length := ⟨_, rfl⟩
    rw [← hrem]
    have hll : (kept ++ (x : Int) :: rem).length ≤ 16 := by rw [List.length_append, List.length_cons, hrem, hrl]; omega
    have hallrest : ∀ y ∈ kept ++ rem, 0 ≤ y ∧ y < (v.length : Int) := by
      intro y hy
      rcases List.mem_append.1 hy with hy | hy
      · have := hk y hy; omega
      · rw [hrem] at hy; have := iota_mem _ _ _ hy; omega
    have hrestl : (kept ++ rem).length ≤ v.length := by rw [List.length_append, hrem, hrl]; omega
    obtain ⟨j, hj, _, hj2, hj3⟩ := index_ev (kept ++ (x : Int) :: rem) (x : Int) (by omega)
    have hjk : j = (kept.length : Int) := by
      have hmem : (x : Int) ∈ kept ++ (x : Int) :: rem := by simp
      have hj0 : 0 ≤ j := by
        rename_i hiff
        exact hiff.2 hmem
      obtain ⟨hjl, hje, hjn⟩ := hj2 hj0
      rcases Int.lt_trichotomy j (kept.length : Int) with h | h | h
      · obtain ⟨m, rfl⟩ := Int.eq_ofNat_of_zero_le hj0
        have hm : m < kept.length := by omega
        rw [rd_append_left _ _ _ hm, rd_get kept m hm] at hje
        have := hk kept[m] (List.getElem_mem hm)
        omega
      · exact h
      · refine absurd ?_ (hjn kept.length h)
        rw [rd_get _ _ (by rw [List.length_append, List.length_cons]; omega), List.getElem_append_right (Nat.le_refl _)]
        simp
    subst hjk
    have hdel : slices_Delete_int_int.f (kept ++ (x : Int) :: rem) (kept.length : Int) (wrap64 ((kept.length : Int) + 1)) = some (kept ++ rem) := by
      unfold slices_Delete_int_int.f
      rw [ws kept.length (by omega), if_pos (by omega), if_pos (by omega), if_pos (by rw [List.length_append, List.length_cons]; omega), Int.toNat_natCast, Int.toNat_natCast, List.take_left']
      · congr 2
        rw [List.drop_append]
        simp
      · rfl
    have hcl : slices_Clone_int_int.f (kept ++ (x : Int) :: rem) = some (kept ++ (x : Int) :: rem) := by
      unfold slices_Clone_int_int.f
      rw [if_pos (by omega)]
    have hstep : ∀ r, Ev (fun k => platform_Explain.l2 k t v bu left (kept ++ (x : Int) :: rem) (kept ++ rem) ((kept ++ rem).map (rd_T28 v)) (v.length : Int) (x : Int) (kept ++ rem) ((kept ++ rem).length : Int) ((kept ++ rem).length : Int)) r →
        Ev (fun k => platform_Explain.l1 k t v bu left (kept ++ (x : Int) :: rem) (v.length : Int) (x : Int)) r := by
      intro r hr
      refine Ev.step (fun k => by simp only [platform_Explain.l1]; rw [if_pos (by omega)]) (Ev.bind hj (Ev.congr (fun k => by rw [hcl, Option.bind_some, hdel, Option.bind_some]) ?_))
      have := xl2_ev t v bu left (x : Int) (v.length : Int) (kept ++ (x : Int) :: rem) (kept ++ rem) hallrest (by omega) r hr (kept ++ rem).length 0 (by omega)
      exact this
    refine hstep _ ?_
    simp only [expl]
    by_cases hlt : left < 1
    · rw [if_pos hlt]
      exact Ev.step (fun k => by simp only [platform_Explain.l2]; rw [if_neg (by omega), if_pos hlt]; rfl) (Ev.now _)
    · rw [if_neg hlt]
      have hvm := vld_map t v (kept ++ rem) hv hallrest hrestl
      obtain ⟨o, u, c, ha, hu0, hu1, hc⟩ := asg_cases t ((kept ++ rem).map (rd_T28 v)) left hvm (by omega) (by omega)
      have hae := assign_ev t ((kept ++ rem).map (rd_T28 v)) left
      rw [ha] at hae ⊢
      have hkeep : ∀ r, Ev (fun k => if c = 15 then some (([] : List Int), (0 : Int), c) else if c = 14 then platform_Explain.l1 k t v bu (left - u) (kept ++ rem) (v.length : Int) ((x + 1 : Nat) : Int) else platform_Explain.l1 k t v bu (left - u) (kept ++ (x : Int) :: rem) (v.length : Int) ((x + 1 : Nat) : Int)) r →
          Ev (fun k => platform_Explain.l2 k t v bu left (kept ++ (x : Int) :: rem) (kept ++ rem) ((kept ++ rem).map (rd_T28 v)) (v.length : Int) (x : Int) (kept ++ rem) ((kept ++ rem).length : Int) ((kept ++ rem).length : Int)) r := by
        intro r hr
        refine Ev.step (fun k => by simp only [platform_Explain.l2]; rw [if_neg (by omega), if_neg hlt]) (Ev.bind hae (Ev.congr (fun k => ?_) hr))
        simp only []
        rw [w64 (left - u) (by omega) (by omega), ws x (by omega)]
      refine hkeep _ ?_
      simp only []
      rcases hc with rfl | rfl | rfl
      · rw [if_neg (by omega), if_neg (by omega)]
        refine Ev.congr (fun k => by rw [if_neg (by omega), if_neg (by omega)]) ?_
        have := ih (x + 1) (kept ++ [(x : Int)]) (left - u) (by omega) (fun y hy => by
          rcases List.mem_append.1 hy with hy | hy
          · have := hk y hy; omega
          · rw [List.mem_singleton.1 hy]; omega) (by rw [List.length_append, List.length_singleton]; omega) (by omega) (by omega)
        rw [← hrem, List.append_assoc] at this
        exact this
      · rw [if_neg (by omega), if_pos rfl]
        refine Ev.congr (fun k => by rw [if_neg (by omega), if_pos rfl]) ?_
        have := ih (x + 1) kept (left - u) (by omega) (fun y hy => by have := hk y hy; omega) (by omega) (by omega) (by omega)
        rw [← hrem] at this
        exact this
      · rw [if_pos rfl]
        exact Ev.congr (fun k => by rw [if_pos rfl]; rfl) (Ev.now _)
theorem xl0_ev (t : Int) (v : List SV) (bu left : Int) (hl : v.length ≤ 16) (r : List Int × Int × Int) (h : Ev (fun k => platform_Explain.l1 k t v bu left (iota 0 v.length) (v.length : Int) 0) r) :
    ∀ d i : Nat, i + d = v.length → Ev (fun k => platform_Explain.l0 k t v bu left (iota 0 i) (v.length : Int) (i : Int)) r := by
  intro d
  induction d with
  | zero =>
    intro i hi
    obtain rfl : i = v.length := by omega
    exact Ev.step (fun k => by simp only [platform_Explain.l0]; rw [if_neg (by omega)]) h
  | succ d ih =>
    intro i hi
    exact Ev.step (f := fun k => platform_Explain.l0 k t v bu left (iota 0 (i + 1)) (v.length : Int) ((i + 1 : Nat) : Int)) (fun k => by simp only [platform_Explain.l0]; rw [if_pos (by omega), if_pos (by rw [iota_len]; omega), ws i (by omega), iota_snoc]) (ih (i + 1) (by omega))
def explB (t : Int) (v : List SV) (bu : Int) : List Int × Int × Int :=
  if (asgB t v bu).2.2 = 0 then ([], 0, 6) else if (asgB t v bu).2.2 = 14 then resX bu (expl t v (iota 0 v.length) [] (bu - (asgB t v bu).2.1)) else ([], 0, (asgB t v bu).2.2)
theorem explain_ev (t : Int) (v : List SV) (bu : Int) : Ev (fun k => platform_Explain.f k t v bu) (explB t v bu) := by
  unfold platform_Explain.f explB
  refine Ev.bind (assign_ev t v bu) ?_
  by_cases h0 : (asgB t v bu).2.2 = 0
  · rw [if_pos h0]; exact Ev.congr (fun k => by rw [if_pos h0]) (Ev.now _)
  · rw [if_neg h0]
    by_cases h1 : (asgB t v bu).2.2 = 14
    · rw [if_pos h1]
      obtain ⟨hv, hb1, hb2⟩ := asg_14 t v bu h1
      obtain ⟨_, _, h16, _⟩ := (vldB_iff _ _).1 hv
      obtain ⟨o, u, c, ha, hu0, hu1, hc⟩ := asg_cases t v bu hv hb1 hb2
      have hu : (asgB t v bu).2.1 = u := by rw [ha]
      have hl1 := xl1_ev t v bu hb1 hb2 hv v.length 0 [] (bu - u) (by omega) (fun y hy => absurd hy (by simp)) (Nat.le_refl _) (by omega) (by omega)
      rw [List.nil_append] at hl1
      rw [hu]
      refine Ev.congr (f := fun k => platform_Explain.l0 k t v bu (bu - u) [] (v.length : Int) 0) (fun k => by rw [if_neg h0, if_pos h1, w64 _ (by omega) (by omega)]) ?_
      exact xl0_ev t v bu (bu - u) h16 _ hl1 v.length 0 (by omega)
    · rw [if_neg h1]; exact Ev.congr (fun k => by rw [if_neg h0, if_neg h1]) (Ev.now _)
/-! #### the reference's loops -/
theorem some_ev (v : List SV) (L : List Int) (hr : ∀ y ∈ L, 0 ≤ y ∧ y < (v.length : Int)) (hl : L.length ≤ 16) : Ev (fun k => railplanref19_some.f k v L) (L.map (rd_T28 v)) := by
  unfold railplanref19_some.f
  have main : ∀ d i : Nat, i + d = L.length → Ev (fun k => railplanref19_some.l0 k v L ((L.take i).map (rd_T28 v)) (L.length : Int) (i : Int)) (L.map (rd_T28 v)) := by
    intro d
    induction d with
    | zero =>
      intro i hi
      obtain rfl : i = L.length := by omega
      rw [List.take_length]
      exact Ev.step (fun k => by simp only [railplanref19_some.l0]; rw [if_neg (by omega)]) (Ev.now _)
    | succ d ih =>
      intro i hi
      have hlt : i < L.length := by omega
      have hg := rd_get L i hlt
      have hy := hr L[i] (List.getElem_mem hlt)
      refine Ev.step (f := fun k => railplanref19_some.l0 k v L ((L.take (i + 1)).map (rd_T28 v)) (L.length : Int) ((i + 1 : Nat) : Int)) (fun k => ?_) (ih (i + 1) (by omega))
      simp only [railplanref19_some.l0]
      rw [if_pos (by omega), if_pos (by omega), if_pos (by omega), hg, if_pos hy.1, if_pos hy.2, if_pos (by rw [List.length_map, List.length_take]; omega), ws i (by omega), ← take_snoc_map (rd_T28 v) L i hlt]
  exact main L.length 0 (by omega)
theorem rxl1_ev (t : Int) (v : List SV) (bu : Int) (hb1 : 1 ≤ bu) (hb2 : bu ≤ 1048576) (hv : vldB t v = true) : ∀ (d x : Nat) (kept : List Int) (left : Int), x + d = v.length → (∀ y ∈ kept, 0 ≤ y ∧ y < (x : Int)) → kept.length ≤ x → 0 ≤ left → left ≤ bu →
    Ev (fun k => railplanref19_Explain.l1 k t v bu (bu - left) (kept ++ iota x v.length) (kept.length : Int)) (resX bu (expl t v (iota x v.length) kept left)) := by
  obtain ⟨t1, t2, h16, hok⟩ := (vldB_iff _ _).1 hv
  intro d
  induction d with
  | zero =>
    intro x kept left hx hk hkl h0 h1
    rw [iota_end x v.length (by omega), List.append_nil]
    exact Ev.step (fun k => by simp only [railplanref19_Explain.l1]; rw [if_neg (by omega)]; rfl) (Ev.now _)
  | succ d ih =>
    intro x kept left hx hk hkl h0 h1
    rw [iota_step x v.length (by omega)]
    have hrl : (iota (x + 1) v.length).length = v.length - (x + 1) := iota_len _ _
    obtain ⟨rem, hrem⟩ : ∃ rem, rem = iota (x + 1) v.length := ⟨_, rfl⟩
    rw [← hrem]
    have hlen : (kept ++ (x : Int) :: rem).length = kept.length + 1 + rem.length := by rw [List.length_append, List.length_cons]; omega
    have hll : (kept ++ (x : Int) :: rem).length ≤ 16 := by rw [hlen, hrem, hrl]; omega
    have hallrest : ∀ y ∈ kept ++ rem, 0 ≤ y ∧ y < (v.length : Int) := by
      intro y hy
      rcases List.mem_append.1 hy with hy | hy
      · have := hk y hy; omega
      · rw [hrem] at hy; have := iota_mem _ _ _ hy; omega
    have hrestl : (kept ++ rem).length ≤ v.length := by rw [List.length_append, hrem, hrl]; omega
    have hwo : railplanref17_Without.f (kept ++ (x : Int) :: rem) (kept.length : Int) = some (kept ++ rem) := by
      unfold railplanref17_Without.f
      rw [if_pos (by omega), if_pos (by omega), if_pos (by omega), Int.toNat_natCast, List.take_left']
      · congr 2
        rw [List.drop_append]
        simp
      · rfl
    have hw : wrap64 (bu - (bu - left)) = left := by rw [w64 _ (by omega) (by omega)]; omega
    simp only [expl]
    by_cases hlt : left < 1
    · rw [if_pos hlt]
      exact Ev.step (fun k => by simp only [railplanref19_Explain.l1]; rw [if_pos (by omega), hw, if_pos hlt]; rfl) (Ev.now _)
    · rw [if_neg hlt]
      have hvm := vld_map t v (kept ++ rem) hv hallrest hrestl
      obtain ⟨o, u, c, ha, hu0, hu1, hc⟩ := asg_cases t ((kept ++ rem).map (rd_T28 v)) left hvm (by omega) (by omega)
      have hae := rassign_ev t ((kept ++ rem).map (rd_T28 v)) left
      rw [ha] at hae ⊢
      have hwu : wrap64 (bu - left + u) = bu - (left - u) := by rw [w64 _ (by omega) (by omega)]; omega
      have hkeep : ∀ r, Ev (fun k => if c = 0 then railplanref19_Explain.l1 k t v bu (bu - (left - u)) (kept ++ (x : Int) :: rem) ((kept.length + 1 : Nat) : Int) else if c = 14 then railplanref19_Explain.l1 k t v bu (bu - (left - u)) (kept ++ rem) (kept.length : Int) else some (([] : List Int), (0 : Int), c)) r →
          Ev (fun k => railplanref19_Explain.l1 k t v bu (bu - left) (kept ++ (x : Int) :: rem) (kept.length : Int)) r := by
        intro r hr
        refine Ev.step (fun k => by simp only [railplanref19_Explain.l1]; rw [if_pos (by omega), hw, if_neg hlt, hwo, Option.bind_some]) (Ev.bind (some_ev v (kept ++ rem) hallrest (by omega)) (Ev.bind hae (Ev.congr (fun k => ?_) hr)))
        simp only [Option.bind_some]
        rw [hwu, ws kept.length (by omega)]
      refine hkeep _ ?_
      simp only []
      rcases hc with rfl | rfl | rfl
      · rw [if_neg (by omega), if_neg (by omega)]
        refine Ev.congr (fun k => by rw [if_pos rfl]) ?_
        have := ih (x + 1) (kept ++ [(x : Int)]) (left - u) (by omega) (fun y hy => by
          rcases List.mem_append.1 hy with hy | hy
          · have := hk y hy; omega
          · rw [List.mem_singleton.1 hy]; omega) (by rw [List.length_append, List.length_singleton]; omega) (by omega) (by omega)
        rw [← hrem, List.append_assoc, List.length_append, List.length_singleton] at this
        exact this
      · rw [if_neg (by omega), if_pos rfl]
        refine Ev.congr (fun k => by rw [if_neg (by omega), if_pos rfl]) ?_
        have := ih (x + 1) kept (left - u) (by omega) (fun y hy => by have := hk y hy; omega) (by omega) (by omega) (by omega)
        rw [← hrem] at this
        exact this
      · rw [if_pos rfl]
        exact Ev.congr (fun k => by rw [if_neg (by omega), if_neg (by omega)]; rfl) (Ev.now _)
theorem rxl0_ev (t : Int) (v : List SV) (bu used : Int) (hl : v.length ≤ 16) (r : List Int × Int × Int) (h : Ev (fun k => railplanref19_Explain.l1 k t v bu used (iota 0 v.length) 0) r) :
    ∀ d i : Nat, i + d = v.length → Ev (fun k => railplanref19_Explain.l0 k t v bu used (iota 0 i) (v.length : Int) (i : Int)) r := by
  intro d
  induction d with
  | zero =>
    intro i hi
    obtain rfl : i = v.length := by omega
    exact Ev.step (fun k => by simp only [railplanref19_Explain.l0]; rw [if_neg (by omega)]) h
  | succ d ih =>
    intro i hi
    exact Ev.step (f := fun k => railplanref19_Explain.l0 k t v bu used (iota 0 (i + 1)) (v.length : Int) ((i + 1 : Nat) : Int)) (fun k => by simp only [railplanref19_Explain.l0]; rw [if_pos (by omega), if_pos (by rw [iota_len]; omega), ws i (by omega), iota_snoc]) (ih (i + 1) (by omega))
theorem rexplain_ev (t : Int) (v : List SV) (bu : Int) : Ev (fun k => railplanref19_Explain.f k t v bu) (explB t v bu) := by
  unfold railplanref19_Explain.f explB
  refine Ev.bind (rassign_ev t v bu) ?_
  by_cases h0 : (asgB t v bu).2.2 = 0
  · rw [if_pos h0]; exact Ev.congr (fun k => by rw [if_pos h0]) (Ev.now _)
  · rw [if_neg h0]
    by_cases h1 : (asgB t v bu).2.2 = 14
    · rw [if_pos h1]
      obtain ⟨hv, hb1, hb2⟩ := asg_14 t v bu h1
      obtain ⟨_, _, h16, _⟩ := (vldB_iff _ _).1 hv
      obtain ⟨o, u, c, ha, hu0, hu1, hc⟩ := asg_cases t v bu hv hb1 hb2
      have hu : (asgB t v bu).2.1 = u := by rw [ha]
      have hl1 := rxl1_ev t v bu hb1 hb2 hv v.length 0 [] (bu - u) (by omega) (fun y hy => absurd hy (by simp)) (Nat.le_refl _) (by omega) (by omega)
      rw [List.nil_append, show bu - (bu - u) = u by omega] at hl1
      rw [hu]
      refine Ev.congr (f := fun k => railplanref19_Explain.l0 k t v bu u [] (v.length : Int) 0) (fun k => by rw [if_neg h0, if_pos h1]) ?_
      exact rxl0_ev t v bu u h16 _ hl1 v.length 0 (by omega)
    · rw [if_neg h1]; exact Ev.congr (fun k => by rw [if_neg h0, if_neg h1]) (Ev.now _)
end Go.Proofs.Ytdgdjbehddeepaa.Pure
