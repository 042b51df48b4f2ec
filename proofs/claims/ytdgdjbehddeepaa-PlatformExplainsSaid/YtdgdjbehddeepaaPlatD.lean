/- Plain facts about agrees, awake and generated visits. No condition but those stated. -/
import Derived.Test.YtdgdjbehddeepaaPlatC
import Derived.Test.YtdgdjbehddeepaaPAllxf36
import Derived.Test.YtdgdjbehddeepaaPAllxf21
import Derived.Test.YtdgdjbehddeepaaPAllxf16
namespace Go.Proofs.Ytdgdjbehddeepaa.Pure
set_option linter.unusedVariables false
set_option linter.unusedSimpArgs false
open Go.RowKit Go.Proofs.Ytdgdjbehddeepaa.PAll Go.Proofs.YtdgdjbehddeepaaW.PrintWords Go.Proofs.YtdgdjbehddeepaaW.PrintLast
theorem awake_ev : Ev (fun k => railplanlaw20_awake.f k) true := Ev.of (fun k => railplanlaw20_awake.mono k) (k := 40) (by kernel_rfl)
theorem same_ev (l : List Int) (hl : l.length ≤ 1152921504606846976) : Ev (fun k => railplankeep_Same_int.f k l l) true := by
  unfold railplankeep_Same_int.f
  refine Ev.congr (fun k => by rw [if_pos rfl]) ?_
  have main : ∀ d i : Nat, i + d = l.length → Ev (fun k => railplankeep_Same_int.l0 k l l (l.length : Int) (i : Int)) true := by
    intro d
    induction d with
    | zero => intro i hi; exact Ev.step (fun k => by simp only [railplankeep_Same_int.l0]; rw [if_neg (by omega)]) (Ev.now _)
    | succ d ih => intro i hi; exact Ev.step (f := fun k => railplankeep_Same_int.l0 k l l (l.length : Int) ((i + 1 : Nat) : Int)) (fun k => by simp only [railplankeep_Same_int.l0]; rw [if_pos (by omega), if_pos (by omega), if_pos (by omega), if_pos (by omega), if_pos trivial, ws i (by omega)]) (ih (i + 1) (by omega))
  exact main l.length 0 (by omega)
theorem goT_len {f : List Int → Nat → Res} {p : Int → Bool} {ch : List Int} {n : Nat} (hf : ∀ c l o l', c.length = ch.length + 1 → f c l = .found o l' → o.length = n) : ∀ (xs : List Int) (l : Nat) (o : List Int) (l' : Nat), goT f p ch xs l = .found o l' → o.length = n
  | [], l, o, l', h => by simp [goT] at h
  | x :: xs, 0, o, l', h => by simp [goT] at h
  | x :: xs, l + 1, o, l', h => by
    by_cases hp : p x = true
    · simp only [goT, hp, if_true] at h
      cases hr : f (ch ++ [x]) l with
      | found o2 l2 =>
        rw [hr] at h
        injection h with h1 h2
        subst h1
        exact hf _ l o2 l2 (by simp) hr
      | fail l2 => rw [hr] at h; exact goT_len hf xs l2 o l' h
      | over => rw [hr] at h; cases h
    · simp only [goT, hp, if_false, Bool.false_eq_true] at h
      exact goT_len hf xs l o l' h
theorem srch_len (t : Int) (v : List SV) : ∀ (d : Nat) (ch : List Int) (l : Nat) (o : List Int) (l' : Nat), srch t v d ch l = .found o l' → o.length = ch.length + d
  | 0, ch, l, o, l', h => by simp only [srch] at h; injection h with h1 h2; subst h1; rfl
  | d + 1, ch, l, o, l', h => by
    simp only [srch] at h
    refine goT_len (n := ch.length + (d + 1)) (fun c l o l' hc h => ?_) _ l o l' h
    have := srch_len t v d c l o l' h
    omega
theorem asg_len (t : Int) (v : List SV) (bu : Int) : (asgB t v bu).1.length ≤ 16 := by
  unfold asgB
  by_cases hv : vldB t v = true
  · rw [if_pos hv]
    have h16 := ((vldB_iff _ _).1 hv).2.2.1
    by_cases hb : 1 ≤ bu ∧ bu ≤ 1048576
    · rw [if_pos hb]
      cases hr : srch t v v.length [] bu.toNat with
      | found o l => have := srch_len t v _ _ _ _ _ hr; show o.length ≤ 16; simp at this; omega
      | fail l => show ([] : List Int).length ≤ 16; simp
      | over => show ([] : List Int).length ≤ 16; simp
    · rw [if_neg hb]; simp
  · rw [if_neg hv]; simp
theorem expl_len (t : Int) (v : List SV) : ∀ (rem kept : List Int) (left : Int) (l : List Int) (left' : Int), expl t v rem kept left = .done l left' → l.length ≤ kept.length + rem.length
  | [], kept, left, l, left', h => by simp only [expl] at h; injection h with h1 h2; subst h1; simp
  | i :: rem, kept, left, l, left', h => by
    simp only [expl] at h
    split at h
    · cases h
    · split at h
      · cases h
      · split at h
        · have := expl_len t v rem kept _ l left' h; simp; omega
        · have := expl_len t v rem (kept ++ [i]) _ l left' h; simp at this ⊢; omega
theorem explB_len (t : Int) (v : List SV) (bu : Int) : (explB t v bu).1.length ≤ 16 := by
  unfold explB
  by_cases h0 : (asgB t v bu).2.2 = 0
  · rw [if_pos h0]; simp
  · rw [if_neg h0]
    by_cases h1 : (asgB t v bu).2.2 = 14
    · rw [if_pos h1]
      have h16 := ((vldB_iff _ _).1 (asg_14 t v bu h1).1).2.2.1
      cases hr : expl t v (iota 0 v.length) [] (bu - (asgB t v bu).2.1) with
      | done l left => have := expl_len t v _ _ _ _ _ hr; rw [iota_len] at this; show l.length ≤ 16; simp at this; omega
      | over => show ([] : List Int).length ≤ 16; simp
    · rw [if_neg h1]; simp
theorem agrees_ev (t : Int) (v : List SV) (ch : List Int) (bu : Int) : Ev (fun k => railplanlaw20_agrees.f k t v ch bu) true := by
  unfold railplanlaw20_agrees.f
  refine Ev.bind (assign_ev t v bu) (Ev.bind (rassign_ev t v bu) (Ev.bind (explain_ev t v bu) (Ev.bind (rexplain_ev t v bu) (Ev.bind (valid_ev t v) (Ev.bind (rvalid_ev t v) ?_)))))
  refine Ev.congr (fun k => by rw [if_pos (by simp)]) (Ev.bind (proper_ev t v ch) (Ev.bind (rproper_ev t v ch) ?_))
  have h1 := asg_len t v bu
  have h2 := explB_len t v bu
  refine Ev.congr (fun k => by rw [if_pos (by simp)]) (Ev.bind (same_ev _ (by omega)) ?_)
  refine Ev.congr (fun k => by rw [if_pos rfl, if_pos rfl, if_pos rfl]) (Ev.bind (same_ev _ (by omega)) ?_)
  exact Ev.congr (fun k => by rw [if_pos rfl, if_pos rfl, beq_self_eq_true]) (Ev.now _)
theorem pick_f (a n : Int) (h1 : 1 ≤ n) (h2 : n ≤ 4611686018427387904) : ∃ v, railplankeep_Pick.f a n = some v ∧ 0 ≤ v ∧ v < n := by
  unfold railplankeep_Pick.f
  rw [u64_wrap, u64_wrap]
  have e : n % 18446744073709551616 = n := Int.emod_eq_of_lt (by omega) (by omega)
  rw [e, if_neg (by omega)]
  have p0 : 0 ≤ a % 18446744073709551616 := Int.emod_nonneg _ (by omega)
  have q0 : Int.tmod (a % 18446744073709551616) n = (a % 18446744073709551616) % n := Int.tmod_eq_emod_of_nonneg p0
  have q1 := Int.emod_nonneg (a % 18446744073709551616) (show n ≠ 0 by omega)
  have q2 := Int.emod_lt_of_pos (a % 18446744073709551616) (show 0 < n by omega)
  refine ⟨_, rfl, ?_, ?_⟩ <;> rw [q0, w64 _ (by omega) (by omega)] <;> assumption
theorem next_f (l : List Int) (i n : Int) (hl : l.length ≤ 1152921504606846976) (h0 : 0 ≤ i) (h1 : i ≤ l.length) (hn : 1 ≤ n) (hn2 : n ≤ 4611686018427387904) :
    ∃ v j, railplankeep_Source_Next.f l i n = some (v, j) ∧ 0 ≤ v ∧ v < n ∧ 0 ≤ j ∧ j ≤ l.length := by
  unfold railplankeep_Source_Next.f
  by_cases h : i ≥ (l.length : Int)
  · rw [if_pos h]; exact ⟨0, i, rfl, by omega, by omega, h0, h1⟩
  · rw [if_neg h, w64 (i + 1) (by omega) (by omega), w64 (i + 1 - 1) (by omega) (by omega), if_pos (by omega), if_pos (by omega)]
    obtain ⟨v, e, a, b⟩ := pick_f (rd l (i + 1 - 1)) n hn hn2
    rw [e]
    exact ⟨v, i + 1, rfl, a, b, by omega, by omega⟩
/-- What visits makes. -/
def okG (t : Int) (x : SV) : Prop := (0 ≤ x.f0 ∧ x.f0 < t) ∧ (1 ≤ x.f1 ∧ x.f1 ≤ t) ∧ okT x.f2 = true ∧ ∀ y ∈ x.f2, 0 ≤ y ∧ y < 4
theorem okT_snoc (l : List Int) (x : Int) (h : okT l = true) (hx : ∀ y ∈ l, y < x) (h0 : 0 ≤ x) : okT (l ++ [x]) = true := by
  unfold okT at h ⊢
  rw [allF_iff] at h ⊢
  intro j _ hj
  rw [List.length_append, List.length_singleton] at hj
  rw [decide_eq_true_eq]
  by_cases e : j = l.length
  · subst e
    rw [rd_append_last]
    unfold prevT
    by_cases e0 : l.length = 0
    · rw [if_pos e0]; omega
    · rw [if_neg e0, rd_append_left _ _ _ (by omega), rd_get _ _ (by omega)]
      exact hx _ (List.getElem_mem _)
  · have := of_decide_eq_true (h j (by omega) (by omega))
    rw [rd_append_left _ _ _ (by omega)]
    unfold prevT at this ⊢
    by_cases e0 : j = 0
    · rw [if_pos e0] at this ⊢; exact this
    · rw [if_neg e0] at this ⊢; rw [rd_append_left _ _ _ (by omega)]; exact this
theorem okT_len (l : List Int) (h : okT l = true) (h4 : ∀ y ∈ l, 0 ≤ y ∧ y < 4) : l.length ≤ 4 := by
  unfold okT at h
  rw [allF_iff] at h
  have hb : ∀ j : Nat, j < l.length → (j : Int) ≤ rd l j := by
    intro j
    induction j with
    | zero => intro hj; have := h4 _ (List.getElem_mem hj); rw [rd_get _ _ hj]; omega
    | succ j ih =>
      intro hj
      have h1 := of_decide_eq_true (h (j + 1) (by omega) hj)
      unfold prevT at h1
      rw [if_neg (by omega), Nat.add_sub_cancel] at h1
      have := ih (by omega)
      omega
  rcases Nat.lt_or_ge 4 l.length with hl | hl
  · have := hb 4 hl
    rw [rd_get _ _ hl] at this
    have := h4 _ (List.getElem_mem hl)
    omega
  · exact hl
theorem okG_okV (t : Int) (x : SV) (h : okG t x) : okV t x = true := by
  have := okT_len _ h.2.2.1 h.2.2.2
  exact (okV_iff _ _).2 ⟨h.1.1, h.1.2, h.2.1.1, h.2.1.2, by omega, h.2.2.1⟩
theorem okG_vld (t : Int) (v : List SV) (h1 : 2 ≤ t) (h2 : t ≤ 7200) (h3 : v.length ≤ 16) (h : ∀ x ∈ v, okG t x) : vldB t v = true := by
  refine (vldB_iff _ _).2 ⟨h1, h2, h3, fun i hi => okG_okV t _ (h _ ?_)⟩
  rw [show rd_T28 v i = v.getD i z28 from rfl, List.getD_eq_getElem?_getD, List.getElem?_eq_getElem hi]
  exact List.getElem_mem hi
theorem vis_l1 (t : Int) (l : List Int) (hl : l.length ≤ 1152921504606846976) (x6 : List SV) (h6 : x6.length ≤ 7) (x7 f0 f1 : Int) (R : List SV → Prop)
    (hcont : ∀ (tr : List Int) (j : Int), okT tr = true → (∀ y ∈ tr, 0 ≤ y ∧ y < 4) → 0 ≤ j → j ≤ l.length → ∃ v, Ev (fun k => railplanlaw20_visits.l0 k t (x6 ++ [(⟨f0, f1, tr⟩ : SV)]) (wrap64 (x7 - 1)) l j) v ∧ R v) :
    ∀ (d : Nat) (i : Nat) (j : Int) (tr : List Int), i + d = 4 → 0 ≤ j → j ≤ l.length → okT tr = true → (∀ y ∈ tr, 0 ≤ y ∧ y < (i : Int)) → ∃ v, Ev (fun k => railplanlaw20_visits.l1 k t x6 x7 (i : Int) l j f0 f1 tr) v ∧ R v := by
  intro d
  induction d with
  | zero =>
    intro i j tr hi h0 h1 ht hm
    obtain ⟨v, hv, hR⟩ := hcont tr j ht (fun y hy => by have := hm y hy; omega) h0 h1
    exact ⟨v, Ev.step (fun k => by simp only [railplanlaw20_visits.l1]; rw [if_neg (by omega), if_pos (by omega)]) hv, hR⟩
  | succ d ih =>
    intro i j tr hi h0 h1 ht hm
    obtain ⟨a, j', e, a0, a1, j0, j1⟩ := next_f l j 2 hl h0 h1 (by omega) (by omega)
    have htl : tr.length ≤ 4 := okT_len tr ht (fun y hy => by have := hm y hy; omega)
    by_cases ha : a = 0
    · obtain ⟨v, hv, hR⟩ := ih (i + 1) j' (tr ++ [(i : Int)]) (by omega) j0 j1 (okT_snoc tr i ht (fun y hy => (hm y hy).2) (by omega)) (fun y hy => by
        rcases List.mem_append.1 hy with hy | hy
        · have := hm y hy; omega
        · rw [List.mem_singleton.1 hy]; omega)
      exact ⟨v, Ev.step (fun k => by simp only [railplanlaw20_visits.l1]; rw [if_pos (by omega), e, Option.bind_some, if_pos ha, if_pos (by omega), ws i (by omega)]) hv, hR⟩
    · obtain ⟨v, hv, hR⟩ := ih (i + 1) j' tr (by omega) j0 j1 ht (fun y hy => by have := hm y hy; omega)
      exact ⟨v, Ev.step (fun k => by simp only [railplanlaw20_visits.l1]; rw [if_pos (by omega), e, Option.bind_some, if_neg ha, ws i (by omega)]) hv, hR⟩
theorem vis_l0 (t : Int) (ht1 : 2 ≤ t) (ht2 : t ≤ 31) (l : List Int) (hl : l.length ≤ 1152921504606846976) : ∀ (d : Nat) (x6 : List SV) (j : Int), x6.length + d ≤ 7 → 0 ≤ j → j ≤ l.length → (∀ x ∈ x6, okG t x) →
    ∃ v, Ev (fun k => railplanlaw20_visits.l0 k t x6 (d : Int) l j) v ∧ v.length ≤ 7 ∧ ∀ x ∈ v, okG t x := by
  intro d
  induction d with
  | zero =>
    intro x6 j hd h0 h1 hok
    exact ⟨x6, Ev.step (fun k => by simp only [railplanlaw20_visits.l0]; rw [if_neg (by omega)]) (Ev.now _), by omega, hok⟩
  | succ d ih =>
    intro x6 j hd h0 h1 hok
    obtain ⟨a1, j1, e1, p1, q1, r1, s1⟩ := next_f l j t hl h0 h1 (by omega) (by omega)
    obtain ⟨a2, j2, e2, p2, q2, r2, s2⟩ := next_f l j1 t hl r1 s1 (by omega) (by omega)
    obtain ⟨a3, j3, e3, p3, q3, r3, s3⟩ := next_f l j2 2 hl r2 s2 (by omega) (by omega)
    have hw : wrap64 (((d + 1 : Nat) : Int) - 1) = (d : Int) := by rw [w64 _ (by omega) (by omega)]; omega
    have htd : Int.tdiv t 3 = t / 3 := Int.tdiv_eq_ediv_of_nonneg (by omega)
    have hw3 : wrap64 (1 + wrap64 (Int.tdiv t 3)) = 1 + t / 3 := by rw [htd, w64 (t / 3) (by omega) (by omega), w64 _ (by omega) (by omega)]
    have hin : ∀ (f1 j : Int), 1 ≤ f1 → f1 ≤ t → 0 ≤ j → j ≤ l.length → ∃ v, Ev (fun k => railplanlaw20_visits.j1 k t x6 ((d + 1 : Nat) : Int) l j a1 f1) v ∧ v.length ≤ 7 ∧ ∀ x ∈ v, okG t x := by
      intro f1 j hf1 hf2 h0 h1
      obtain ⟨v, hv, hR⟩ := vis_l1 t l hl x6 (by omega) ((d + 1 : Nat) : Int) a1 f1 (fun v => v.length ≤ 7 ∧ ∀ x ∈ v, okG t x) (fun tr j' ht hm r s => by
        rw [hw]
        exact ih (x6 ++ [(⟨a1, f1, tr⟩ : SV)]) j' (by rw [List.length_append, List.length_singleton]; omega) r s (fun x hx => by
          rcases List.mem_append.1 hx with hx | hx
          · exact hok x hx
          · rw [List.mem_singleton.1 hx]; exact ⟨⟨p1, q1⟩, ⟨hf1, hf2⟩, ht, hm⟩)) 4 0 j [] (by omega) h0 h1 (by kernel_rfl) (fun y hy => absurd hy (by simp))
      exact ⟨v, Ev.step (fun k => by simp only [railplanlaw20_visits.j1]; rfl) hv, hR⟩
    by_cases h3 : a3 = 0
    · obtain ⟨a4, j4, e4, p4, q4, r4, s4⟩ := next_f l j3 (1 + t / 3) hl r3 s3 (by omega) (by omega)
      obtain ⟨v, hv, hR⟩ := hin (1 + a4) j4 (by omega) (by omega) r4 s4
      exact ⟨v, Ev.step (fun k => by simp only [railplanlaw20_visits.l0]; rw [if_pos (by omega), e1, Option.bind_some, e2, Option.bind_some, e3, Option.bind_some, if_pos h3, hw3, e4, Option.bind_some, w64 (1 + a4) (by omega) (by omega)]) hv, hR⟩
    · obtain ⟨v, hv, hR⟩ := hin (1 + a2) j3 (by omega) (by omega) r3 s3
      exact ⟨v, Ev.step (fun k => by simp only [railplanlaw20_visits.l0]; rw [if_pos (by omega), e1, Option.bind_some, e2, Option.bind_some, e3, Option.bind_some, if_neg h3, w64 (1 + a2) (by omega) (by omega)]) hv, hR⟩
theorem visits_ev (t : Int) (ht1 : 2 ≤ t) (ht2 : t ≤ 31) (l : List Int) (hl : l.length ≤ 1152921504606846976) : ∃ v, Ev (fun k => railplanlaw20_visits.f k t l) v ∧ v.length ≤ 7 ∧ ∀ x ∈ v, okG t x := by
  obtain ⟨a, j, e, p, q, r, s⟩ := next_f l 0 8 hl (by omega) (by omega) (by omega) (by omega)
  obtain ⟨d, rfl⟩ := Int.eq_ofNat_of_zero_le p
  obtain ⟨v, hv, hR⟩ := vis_l0 t ht1 ht2 l hl d [] j (by simp; omega) r s (fun x hx => absurd hx (by simp))
  refine ⟨v, Ev.congr (fun k => ?_) hv, hR⟩
  unfold railplanlaw20_visits.f railplankeep_From.f
  rw [Option.bind_some, e, Option.bind_some]
end Go.Proofs.Ytdgdjbehddeepaa.Pure
