/- The pure side of PlatformExplains: what Explain returns has no proper choice, and has one without any one of its own. No condition. -/
import Derived.Test.YtdgdjbehddeepaaPlatF
import Derived.Test.YtdgdjbehddeepaaPAllxf8
namespace Go.Proofs.Ytdgdjbehddeepaa.Pure
set_option linter.unusedVariables false
set_option linter.unusedSimpArgs false
open Go.RowKit Go.Proofs.Ytdgdjbehddeepaa.PAll Go.Proofs.YtdgdjbehddeepaaW.PrintWords Go.Proofs.YtdgdjbehddeepaaW.PrintLast
theorem x_len4 {t : Int} {v : List SV} (h : ∀ x ∈ v, okG t x) : ∀ i : Nat, i < v.length → (rd_T28 v i).f2.length ≤ 4 := fun i hi => by
  have := h _ (mem_rd v i hi)
  exact okT_len _ this.2.2.1 this.2.2.2
def sel (v : List SV) (L : List Int) : List SV := L.map (rd_T28 v)
/-- A choice as pairs of a visit's place and its track. -/
def Ok (t : Int) (v : List SV) (P : List (Int × Int)) : Prop := (∀ q ∈ P, q.2 ∈ (rd_T28 v q.1).f2) ∧ P.Pairwise (fun a b => ¬ (a.2 = b.2 ∧ ovB t (rd_T28 v a.1) (rd_T28 v b.1) = true))
theorem ok_iff (t : Int) (v : List SV) (P : List (Int × Int)) (hv : vldB t (sel v (P.map Prod.fst)) = true) : properB t (sel v (P.map Prod.fst)) (P.map Prod.snd) = true ↔ Ok t v P := by
  have hg : ∀ i : Nat, (h : i < P.length) → rd_T28 (sel v (P.map Prod.fst)) i = rd_T28 v (P[i].1) ∧ rd (P.map Prod.snd) i = P[i].2 := fun i h => by
    refine ⟨?_, ?_⟩
    · unfold sel; rw [rd_map v (P.map Prod.fst) i (by simpa using h), List.getElem_map]
    · rw [rd_get _ _ (by simpa using h), List.getElem_map]
  unfold properB
  rw [hv, Bool.true_and, Bool.and_eq_true, decide_eq_true_eq, allF_iff]
  have hlen : (P.map Prod.snd).length = P.length := by simp
  have hlen2 : (sel v (P.map Prod.fst)).length = P.length := by unfold sel; simp
  unfold Ok
  rw [List.pairwise_iff_getElem]
  constructor
  · rintro ⟨_, h⟩
    refine ⟨fun q hq => ?_, fun i j hi hj hij hbad => ?_⟩
    · obtain ⟨i, hi, rfl⟩ := List.getElem_of_mem hq
      have := h i (by omega) (by omega)
      unfold oneB at this
      rw [(hg i hi).1, (hg i hi).2, Bool.and_eq_true, List.contains_iff_mem] at this
      exact this.1
    · have := h j (by omega) (by omega)
      unfold oneB at this
      rw [Bool.and_eq_true] at this
      have hf := this.2
      unfold fitsB at hf
      rw [allF_iff] at hf
      have hl : ((P.map Prod.snd).take j).length = j := by rw [List.length_take]; omega
      have := hf i (by omega) (by omega)
      rw [rd_take _ _ _ hij, hl, (hg i hi).1, (hg j hj).1, (hg i hi).2, (hg j hj).2, decide_eq_true hbad.1, hbad.2] at this
      cases this
  · rintro ⟨h1, h2⟩
    refine ⟨by omega, fun j _ hj => ?_⟩
    have hj' : j < P.length := by omega
    unfold oneB
    rw [(hg j hj').1, (hg j hj').2, Bool.and_eq_true, List.contains_iff_mem]
    refine ⟨h1 _ (List.getElem_mem hj'), ?_⟩
    unfold fitsB
    rw [allF_iff]
    intro i _ hi
    have hl : ((P.map Prod.snd).take j).length = j := by rw [List.length_take]; omega
    have hij : i < j := by omega
    have := h2 i j (by omega) hj' hij
    rw [rd_take _ _ _ hij, hl, (hg i (by omega)).1, (hg j hj').1, (hg i (by omega)).2]
    cases hb : decide (P[i].2 = P[j].2) && ovB t (rd_T28 v P[i].1) (rd_T28 v P[j].1) with
    | false => rfl
    | true => rw [Bool.and_eq_true, decide_eq_true_eq] at hb; exact absurd hb this
def Fe (t : Int) (v : List SV) (L : List Int) : Prop := ∃ P, P.map Prod.fst = L ∧ Ok t v P
theorem Fe.sub {t : Int} {v : List SV} {L L' : List Int} (h : Fe t v L) (hs : L'.Sublist L) : Fe t v L' := by
  obtain ⟨P, rfl, h1, h2⟩ := h
  obtain ⟨Q, hQ, rfl⟩ := List.sublist_map_iff.1 hs
  exact ⟨Q, rfl, fun q hq => h1 q (hQ.subset hq), h2.sublist hQ⟩
theorem Fe_nil (t : Int) (v : List SV) : Fe t v [] := ⟨[], rfl, ⟨fun q hq => (by cases hq), List.Pairwise.nil⟩⟩
theorem asg_fe (t : Int) (v : List SV) (hv : vldB t v = true) (h7 : v.length ≤ 7) (h4 : ∀ i : Nat, i < v.length → (rd_T28 v i).f2.length ≤ 4) (L : List Int) (hL : ∀ y ∈ L, 0 ≤ y ∧ y < (v.length : Int)) (hl : L.length ≤ v.length) (bu : Int) (hb : 21844 ≤ bu) (hb2 : bu ≤ 1048576) :
    0 ≤ (asgB t (sel v L) bu).2.1 ∧ (asgB t (sel v L) bu).2.1 ≤ 21844 ∧ (((asgB t (sel v L) bu).2.2 = 0 ∧ Fe t v L) ∨ ((asgB t (sel v L) bu).2.2 = 14 ∧ ¬ Fe t v L)) := by
  have hvm : vldB t (sel v L) = true := vld_map t v L hv hL hl
  have hlen : (sel v L).length = L.length := by unfold sel; simp
  have h44 : ∀ i : Nat, i < (sel v L).length → (rd_T28 (sel v L) i).f2.length ≤ 4 := fun i hi => by
    rw [hlen] at hi
    have := hL L[i] (List.getElem_mem hi)
    have h5 := h4 (L[i]).toNat (by omega)
    rw [Int.toNat_of_nonneg this.1] at h5
    unfold sel
    rwa [rd_map v L i hi]
  rcases asg_first t (sel v L) hvm (by omega) h44 bu hb hb2 with ⟨o, u, e, h1, h2, h3, _⟩ | ⟨u, e, h1, h2, h3⟩
  · rw [e]
    refine ⟨h1, h2, .inl ⟨rfl, ?_⟩⟩
    have hol : o.length = L.length := by
      unfold properB at h3
      rw [Bool.and_eq_true, Bool.and_eq_true, decide_eq_true_eq] at h3
      omega
    have e1 : (L.zip o).map Prod.fst = L := List.map_fst_zip (by omega)
    have e2 : (L.zip o).map Prod.snd = o := List.map_snd_zip (by omega)
    refine ⟨L.zip o, e1, (ok_iff t v (L.zip o) (by rw [e1]; exact hvm)).1 (by rw [e1, e2]; exact h3)⟩
  · rw [e]
    refine ⟨h1, h2, .inr ⟨rfl, ?_⟩⟩
    rintro ⟨P, rfl, hP⟩
    have := (ok_iff t v P hvm).2 hP
    rw [h3] at this
    cases this
/-- The deletion keeps what cannot be spared. -/
theorem expl_min (t : Int) (v : List SV) (hv : vldB t v = true) (h7 : v.length ≤ 7) (h4 : ∀ i : Nat, i < v.length → (rd_T28 v i).f2.length ≤ 4) :
    ∀ (rem kept : List Int) (left : Int), (∀ y ∈ kept ++ rem, 0 ≤ y ∧ y < (v.length : Int)) → (kept ++ rem).length ≤ v.length → (rem.length : Int) * 21844 ≤ left → left ≤ 1048576 → ¬ Fe t v (kept ++ rem) →
      ∃ s left', expl t v rem kept left = .done (kept ++ s) left' ∧ s.Sublist rem ∧ ¬ Fe t v (kept ++ s) ∧ ∀ p : Nat, p < s.length → Fe t v (kept ++ s.eraseIdx p) := by
  intro rem
  induction rem with
  | nil => intro kept left hr hl h0 h1 hno; exact ⟨[], left, by simp only [expl, List.append_nil], List.Sublist.refl _, hno, fun p hp => absurd hp (by simp)⟩
  | cons i rem ih =>
    intro kept left hr hl h0 h1 hno
    have hr' : ∀ y ∈ kept ++ rem, 0 ≤ y ∧ y < (v.length : Int) := fun y hy => hr y (by
      rcases List.mem_append.1 hy with h | h
      · exact List.mem_append.2 (.inl h)
      · exact List.mem_append.2 (.inr (List.mem_cons_of_mem _ h)))
    have hl' : (kept ++ rem).length ≤ v.length := by rw [List.length_append] at hl ⊢; rw [List.length_cons] at hl; omega
    rw [List.length_cons] at h0
    have h0' : (rem.length : Int) * 21844 + 21844 ≤ left := by omega
    have hp : 0 ≤ (rem.length : Int) * 21844 := by omega
    obtain ⟨u0, u1, hc⟩ := asg_fe t v hv h7 h4 (kept ++ rem) hr' hl' left (by omega) h1
    rw [show sel v (kept ++ rem) = (kept ++ rem).map (rd_T28 v) from rfl] at u0 u1 hc
    simp only [expl]
    rw [if_neg (by omega)]
    rcases hc with ⟨c0, hf⟩ | ⟨c0, hf⟩
    · rw [if_neg (by omega), if_neg (by omega)]
      have ea : kept ++ [i] ++ rem = kept ++ i :: rem := by simp
      obtain ⟨s, left', e, hs, hn, hm⟩ := ih (kept ++ [i]) (left - (asgB t ((kept ++ rem).map (rd_T28 v)) left).2.1) (by rw [ea]; exact hr) (by rw [ea]; exact hl) (by omega) (by omega) (by rw [ea]; exact hno)
      refine ⟨i :: s, left', by rw [e]; simp, hs.cons_cons _, by simpa using hn, fun p hp => ?_⟩
      cases p with
      | zero => exact hf.sub (by rw [List.eraseIdx_zero, List.tail_cons]; exact List.Sublist.append (List.Sublist.refl _) hs)
      | succ p => have := hm p (by rw [List.length_cons] at hp; omega); rw [List.eraseIdx_cons_succ]; simpa using this
    · rw [if_neg (by omega), if_pos c0]
      obtain ⟨s, left', e, hs, hn, hm⟩ := ih kept (left - (asgB t ((kept ++ rem).map (rd_T28 v)) left).2.1) hr' hl' (by omega) (by omega) hf
      exact ⟨s, left', e, hs.cons _, hn, hm⟩
theorem sel_iota (v : List SV) : sel v (iota 0 v.length) = v := by
  refine List.ext_getElem (by unfold sel; rw [List.length_map, iota_len]; omega) (fun i h1 h2 => ?_)
  have e : (sel v (iota 0 v.length))[i] = rd_T28 v ((0 + 1 * i : Nat) : Int) := by
    simp [sel, iota]
  rw [e, show (0 + 1 * i) = i by omega]
  show v.getD _ _ = _
  rw [List.getD_eq_getElem?_getD, Int.toNat_natCast, List.getElem?_eq_getElem h2]
  rfl
theorem iota_pw (n : Nat) : (iota 0 n).Pairwise (· < ·) := by
  rw [List.pairwise_iff_getElem]
  intro i j hi hj hij
  simp [iota]
  omega
theorem pick_ev (v : List SV) (L : List Int) (hl : L.length ≤ 16) (hL : ∀ y ∈ L, 0 ≤ y ∧ y < (v.length : Int)) : Ev (fun k => railplanlaw20_pick.f k v L) (sel v L) := by
  unfold railplanlaw20_pick.f
  have main : ∀ d i : Nat, i + d = L.length → Ev (fun k => railplanlaw20_pick.l0 k v L ((L.take i).map (rd_T28 v)) (L.length : Int) (i : Int)) (sel v L) := by
    intro d
    induction d with
    | zero =>
      intro i hi
      obtain rfl : i = L.length := by omega
      rw [List.take_length]
      exact Ev.step (fun k => by simp only [railplanlaw20_pick.l0]; rw [if_neg (by omega)]; rfl) (Ev.now _)
    | succ d ih =>
      intro i hi
      have hlt : i < L.length := by omega
      have hg := rd_get L i hlt
      have hy := hL L[i] (List.getElem_mem hlt)
      refine Ev.step (f := fun k => railplanlaw20_pick.l0 k v L ((L.take (i + 1)).map (rd_T28 v)) (L.length : Int) ((i + 1 : Nat) : Int)) (fun k => ?_) (ih (i + 1) (by omega))
      simp only [railplanlaw20_pick.l0]
      rw [if_pos (by omega), if_pos (by omega), if_pos (by omega), hg, if_pos hy.1, if_pos hy.2, if_pos (by rw [List.length_map, List.length_take]; omega), ws i (by omega), ← take_snoc_map (rd_T28 v) L i hlt]
  exact main L.length 0 (by omega)
theorem asc_ev (L : List Int) (n : Int) (hl : L.length ≤ 16) (hL : ∀ y ∈ L, 0 ≤ y ∧ y ≤ n) (hp : L.Pairwise (· < ·)) : Ev (fun k => railplanref17_Ascending.f k L n) true := by
  unfold railplanref17_Ascending.f
  rw [List.pairwise_iff_getElem] at hp
  have main : ∀ d i : Nat, i + d = L.length → Ev (fun k => railplanref17_Ascending.l0 k L n (i : Int)) true := by
    intro d
    induction d with
    | zero =>
      intro i hi
      exact Ev.step (fun k => by simp only [railplanref17_Ascending.l0]; rw [if_neg (by omega)]) (Ev.now _)
    | succ d ih =>
      intro i hi
      have hlt : i < L.length := by omega
      have hg := rd_get L i hlt
      have hy := hL L[i] (List.getElem_mem hlt)
      have hin : railplanref17_in.f L[i] 0 n = some true := by unfold railplanref17_in.f; rw [if_pos hy.1, decide_eq_true hy.2]
      refine Ev.step (f := fun k => railplanref17_Ascending.l0 k L n ((i + 1 : Nat) : Int)) (fun k => ?_) (ih (i + 1) (by omega))
      simp only [railplanref17_Ascending.l0]
      rw [if_pos (by omega), if_pos (by omega), hg, hin, Option.bind_some, if_pos rfl, ws i (by omega)]
      by_cases h0 : i = 0
      · rw [if_neg (by omega)]
      · rw [if_pos (by omega), w64 _ (by omega) (by omega), if_pos (by omega), if_pos (by omega), show ((i : Int) - 1) = ((i - 1 : Nat) : Int) by omega, rd_get L (i - 1) (by omega)]
        have := hp (i - 1) i (by omega) hlt (by omega)
        rw [if_neg (by omega)]
  exact main L.length 0 (by omega)
theorem PlatformExplains : railplanlaw20_PlatformExplains.Pure := by
  intro a0 l1 a2 _ _ h1 _ _
  apply Ev.rounds
  unfold railplanlaw20_PlatformExplains.f
  obtain ⟨p, hp, hp0, hp1⟩ := pick_f a0 30 (by omega) (by omega)
  have hw : wrap64 (2 + p) = 2 + p := w64 _ (by omega) (by omega)
  obtain ⟨v, hv, hv7, hok⟩ := visits_ev (2 + p) (by omega) (by omega) l1 (by omega)
  have hvld := okG_vld (2 + p) v (by omega) (by omega) (by omega) hok
  have h4 := x_len4 hok
  refine Ev.congr (fun k => by rw [hp, Option.bind_some, hw]) (Ev.bind hv ?_)
  refine Ev.bind (explain_ev (2 + p) v 262144) (Ev.bind (rassign_ev (2 + p) v 262144) ?_)
  have hio : ∀ y ∈ iota 0 v.length, 0 ≤ y ∧ y < (v.length : Int) := fun y hy => by have := iota_mem _ _ _ hy; omega
  have hil : (iota 0 v.length).length = v.length := by rw [iota_len]; omega
  obtain ⟨u0, u1, hc⟩ := asg_fe (2 + p) v hvld hv7 h4 (iota 0 v.length) hio (by omega) 262144 (by omega) (by omega)
  rw [sel_iota] at u0 u1 hc
  rcases hc with ⟨c0, _⟩ | ⟨c0, hno⟩
  · have hx : explB (2 + p) v 262144 = ([], 0, 6) := by unfold explB; rw [if_pos c0]
    rw [hx]
    refine Ev.congr (fun k => by rw [if_neg (show ¬ (6 : Int) = 0 by omega)]) (Ev.bind awake_ev ?_)
    exact Ev.congr (fun k => by rw [if_pos rfl, if_pos rfl, c0]; rfl) (Ev.now _)
  · obtain ⟨s, left', e, hs, hn, hm⟩ := expl_min (2 + p) v hvld hv7 h4 (iota 0 v.length) [] (262144 - (asgB (2 + p) v 262144).2.1) (by simpa using hio) (by simp [hil]) (by omega) (by omega) (by simpa using hno)
    rw [List.nil_append] at e hn
    have hx : explB (2 + p) v 262144 = (s, 262144 - left', 0) := by unfold explB; rw [if_neg (by omega), if_pos c0, e]; rfl
    rw [hx]
    have hsl : s.length ≤ v.length := by have := hs.length_le; omega
    have hse : ∀ y ∈ s, 0 ≤ y ∧ y < (v.length : Int) := fun y hy => hio y (hs.subset hy)
    have hs0 : 0 < s.length := by
      rcases Nat.eq_zero_or_pos s.length with h | h
      · have := List.eq_nil_of_length_eq_zero h
        subst this
        exact absurd (Fe_nil _ _) hn
      · exact h
    refine Ev.congr (fun k => by rw [if_pos rfl, c0, if_pos rfl, if_neg (show ¬ (s.length : Int) = 0 by omega), w64 ((v.length : Int) - 1) (by omega) (by omega)]) (Ev.bind (asc_ev s ((v.length : Int) - 1) (by omega) (fun y hy => by have := hse y hy; omega) ((iota_pw _).sublist hs)) ?_)
    obtain ⟨q, hq, hq0, hq1⟩ := pick_f a2 (s.length : Int) (by omega) (by omega)
    obtain ⟨qn, rfl⟩ := Int.eq_ofNat_of_zero_le hq0
    have hqn : qn < s.length := by omega
    have hwo : railplanref17_Without.f s (qn : Int) = some (s.eraseIdx qn) := by
      unfold railplanref17_Without.f
      rw [if_pos hq0, if_pos hq1, if_pos (by omega), Int.toNat_natCast, List.eraseIdx_eq_take_drop_succ]
    have hes : (s.eraseIdx qn).Sublist s := List.eraseIdx_sublist s qn
    have hel : (s.eraseIdx qn).length ≤ s.length := hes.length_le
    have hee : ∀ y ∈ s.eraseIdx qn, 0 ≤ y ∧ y < (v.length : Int) := fun y hy => hse y (hes.subset hy)
    obtain ⟨_, _, hc1⟩ := asg_fe (2 + p) v hvld hv7 h4 s hse hsl 262144 (by omega) (by omega)
    obtain ⟨_, _, hc2⟩ := asg_fe (2 + p) v hvld hv7 h4 (s.eraseIdx qn) hee (by omega) 262144 (by omega) (by omega)
    have g1 : (asgB (2 + p) (sel v s) 262144).2.2 = 14 := by
      rcases hc1 with ⟨_, hf⟩ | ⟨h, _⟩
      · exact absurd hf hn
      · exact h
    have g2 : (asgB (2 + p) (sel v (s.eraseIdx qn)) 262144).2.2 = 0 := by
      rcases hc2 with ⟨h, _⟩ | ⟨_, hf⟩
      · exact h
      · have := hm qn hqn; rw [List.nil_append] at this; exact absurd this hf
    refine Ev.step (fun k => by simp only [railplanlaw20_PlatformExplains.j0]; rw [if_neg (by simp)]) ?_
    refine Ev.bind (pick_ev v s (by omega) hse) (Ev.bind (rassign_ev _ _ _) ?_)
    refine Ev.congr (fun k => by rw [hq, Option.bind_some, hwo, Option.bind_some]) (Ev.bind (pick_ev v (s.eraseIdx qn) (by omega) hee) (Ev.bind (rassign_ev _ _ _) (Ev.bind awake_ev ?_)))
    exact Ev.congr (fun k => by rw [if_pos rfl, g1, if_pos rfl, g2]; rfl) (Ev.now _)
end Go.Proofs.Ytdgdjbehddeepaa.Pure
