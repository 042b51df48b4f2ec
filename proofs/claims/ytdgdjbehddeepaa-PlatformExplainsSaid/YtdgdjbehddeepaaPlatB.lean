/- Plain facts about Assign: the program's search and the reference's search answer one and the same plain search. No condition but those stated. -/
import Derived.Test.YtdgdjbehddeepaaPlatA
import Derived.Test.YtdgdjbehddeepaaPAllxf15
import Derived.Test.YtdgdjbehddeepaaPAllxf24
namespace Go.Proofs.Ytdgdjbehddeepaa.Pure
set_option linter.unusedVariables false
set_option linter.unusedSimpArgs false
open Go.RowKit Go.Proofs.Ytdgdjbehddeepaa.PAll Go.Proofs.YtdgdjbehddeepaaW.PrintWords Go.Proofs.YtdgdjbehddeepaaW.PrintLast
/-! #### the plain search -/
inductive Res where
  | found (o : List Int) (l : Nat)
  | fail (l : Nat)
  | over
def goT (f : List Int → Nat → Res) (p : Int → Bool) (ch : List Int) : List Int → Nat → Res
  | [], l => .fail l
  | _ :: _, 0 => .over
  | x :: xs, l + 1 => if p x then (match f (ch ++ [x]) l with
      | .fail l' => goT f p ch xs l'
      | r => r) else goT f p ch xs l
def srch (t : Int) (v : List SV) : Nat → List Int → Nat → Res
  | 0, ch, l => .found ch l
  | d + 1, ch, l => goT (srch t v d) (fitsB t v ch) ch (rd_T28 v ch.length).f2 l
theorem goT_le {f : List Int → Nat → Res} {p : Int → Bool} {ch : List Int} (hf : ∀ c l, (∀ o l', f c l = .found o l' → l' ≤ l) ∧ (∀ l', f c l = .fail l' → l' ≤ l)) : ∀ (xs : List Int) (l : Nat), (∀ o l', goT f p ch xs l = .found o l' → l' ≤ l) ∧ (∀ l', goT f p ch xs l = .fail l' → l' ≤ l)
  | [], l => ⟨fun o l' h => (by simp [goT] at h), fun l' h => (by simp [goT] at h; omega)⟩
  | x :: xs, 0 => ⟨fun o l' h => (by simp [goT] at h), fun l' h => (by simp [goT] at h)⟩
  | x :: xs, l + 1 => by
    by_cases hp : p x = true
    · simp only [goT, hp, if_true]
      have h1 := hf (ch ++ [x]) l
      cases hr : f (ch ++ [x]) l with
      | found o l' =>
        have := h1.1 o l' hr
        exact ⟨fun o2 l2 h => (by injection h; omega), fun l2 h => (by cases h)⟩
      | fail l' =>
        have h2 := h1.2 l' hr
        have h3 := goT_le (p := p) (ch := ch) hf xs l'
        exact ⟨fun o2 l2 h => Nat.le_trans (h3.1 o2 l2 h) (by omega), fun l2 h => Nat.le_trans (h3.2 l2 h) (by omega)⟩
      | over => exact ⟨fun o2 l2 h => (by cases h), fun l2 h => (by cases h)⟩
    · simp only [goT, hp, if_false, Bool.false_eq_true]
      have h3 := goT_le (p := p) (ch := ch) hf xs l
      exact ⟨fun o2 l2 h => Nat.le_trans (h3.1 o2 l2 h) (by omega), fun l2 h => Nat.le_trans (h3.2 l2 h) (by omega)⟩
theorem srch_le (t : Int) (v : List SV) : ∀ (d : Nat) (ch : List Int) (l : Nat), (∀ o l', srch t v d ch l = .found o l' → l' ≤ l) ∧ (∀ l', srch t v d ch l = .fail l' → l' ≤ l)
  | 0, ch, l => ⟨fun o l' h => (by simp only [srch] at h; injection h; omega), fun l' h => (by simp [srch] at h)⟩
  | d + 1, ch, l => goT_le (srch_le t v d) _ l
/-! #### the program's search -/
def resP : Res → List Int × Bool × Int × Bool
  | .found o l => (o, true, (l : Int), false)
  | .fail l => ([], false, (l : Int), false)
  | .over => ([], false, 0, true)
theorem ext_ev (t : Int) (v : List SV) (hv : vldB t v = true) : ∀ (d : Nat) (ch : List Int) (l : Nat), ch.length + d = v.length → l ≤ 1048576 → Ev (fun k => ext_f k t v (l : Int) false ch) (resP (srch t v d ch l)) := by
  obtain ⟨t1, t2, hv16, hok⟩ := (vldB_iff _ _).1 hv
  intro d
  induction d with
  | zero =>
    intro ch l hd hl
    exact Ev.step (fun k => by simp only [ext_f]; rw [if_pos (by omega)]; rfl) (Ev.now _)
  | succ d ih =>
    intro ch l hd hl
    have h8 := ((okV_iff _ _).1 (hok ch.length (by omega))).2.2.2.2.1
    obtain ⟨tr, htr⟩ : ∃ tr, tr = (rd_T28 v ch.length).f2 := ⟨_, rfl⟩
    rw [← htr] at h8
    have main : ∀ (e i l : Nat), i + e = tr.length → l ≤ 1048576 → Ev (fun k => ext_l k t v (l : Int) false ch tr (i : Int)) (resP (goT (srch t v d) (fitsB t v ch) ch (tr.drop i) l)) := by
      intro e
      induction e with
      | zero =>
        intro i l hi hl
        rw [List.drop_eq_nil_of_le (by omega)]
        exact Ev.step (fun k => by simp only [ext_l]; rw [if_neg (by omega)]; rfl) (Ev.now _)
      | succ e ihe =>
        intro i l hi hl
        have hlt : i < tr.length := by omega
        have hg : rd tr i = tr[i] := by unfold rd; rw [Int.toNat_natCast, List.getD_eq_getElem?_getD, List.getElem?_eq_getElem hlt]; rfl
        rw [List.drop_eq_getElem_cons hlt, ← hg]
        cases l with
        | zero => exact Ev.step (fun k => by simp only [ext_l]; rw [if_pos (by omega), if_pos (by omega), if_pos (by rfl)]; rfl) (Ev.now _)
        | succ l =>
          have hw : wrap64 (((l + 1 : Nat) : Int) - 1) = (l : Int) := by rw [w64 _ (by omega) (by omega)]; omega
          refine Ev.step (fun k => by simp only [ext_l]; rw [if_pos (by omega), if_pos (by omega), if_neg (by omega), hw]) (Ev.bind (fits_ev t v ch (rd tr i) hv (by omega)) ?_)
          cases hp : fitsB t v ch (rd tr i) with
          | false =>
            simp only [goT, hp, Bool.false_eq_true, if_false]
            exact Ev.congr (f := fun k => ext_l k t v (l : Int) false ch tr ((i + 1 : Nat) : Int)) (fun k => by rw [ws i (by omega)]) (ihe (i + 1) l (by omega) (by omega))
          | true =>
            simp only [goT, hp, if_true]
            have hx := ih (ch ++ [rd tr i]) l (by rw [List.length_append, List.length_singleton]; omega) (by omega)
            refine Ev.congr (fun k => by rw [if_pos (by omega)]) (Ev.bind hx ?_)
            have hle := srch_le t v d (ch ++ [rd tr i]) l
            cases hr : srch t v d (ch ++ [rd tr i]) l with
            | found o l' => exact Ev.now _
            | fail l' =>
              simp only [resP, Bool.or_self, Bool.false_eq_true, if_false]
              exact Ev.congr (f := fun k => ext_l k t v (l' : Int) false ch tr ((i + 1 : Nat) : Int)) (fun k => by rw [ws i (by omega)]) (ihe (i + 1) l' (by omega) (by have := hle.2 l' hr; omega))
            | over => exact Ev.now _
    refine Ev.step (f := fun k => ext_l k t v (l : Int) false ch tr 0) (fun k => by simp only [ext_f]; rw [if_neg (by omega), if_pos (by omega), htr]) ?_
    have := main tr.length 0 l (by omega) hl
    simp only [srch]
    rw [← htr]
    exact this
/-! #### the reference's search -/
theorem take_append_one (v : List SV) (i : Nat) (h : i < v.length) (j : Nat) (hj : j < i + 1) : rd_T28 (v.take (i + 1)) j = rd_T28 v j := by
  unfold rd_T28; rw [Int.toNat_natCast, List.getD_eq_getElem?_getD, List.getD_eq_getElem?_getD, List.getElem?_take_of_lt hj]
theorem fitsB_congr (t : Int) (v v' : List SV) (ch ch' : List Int) (c : Int) (hl : ch.length = ch'.length) (h1 : ∀ j : Nat, j < ch.length → rd ch j = rd ch' j) (h2 : ∀ j : Nat, j ≤ ch.length → rd_T28 v j = rd_T28 v' j) : fitsB t v ch c = fitsB t v' ch' c := by
  unfold fitsB
  rw [← hl, Bool.eq_iff_iff, allF_iff, allF_iff]
  constructor
  · intro h j h0 h3; have := h j h0 h3; rwa [h1 j h3, h2 j (by omega), h2 ch.length (Nat.le_refl _)] at this
  · intro h j h0 h3; have := h j h0 h3; rwa [← h1 j h3, ← h2 j (by omega), ← h2 ch.length (Nat.le_refl _)] at this
theorem rd_append_left (a b : List Int) (j : Nat) (h : j < a.length) : rd (a ++ b) j = rd a j := by
  unfold rd; rw [Int.toNat_natCast, List.getD_eq_getElem?_getD, List.getD_eq_getElem?_getD, List.getElem?_append_left h]
theorem rd_append_last (a : List Int) (x : Int) : rd (a ++ [x]) (a.length : Int) = x := by
  unfold rd; rw [Int.toNat_natCast, List.getD_eq_getElem?_getD, List.getElem?_append_right (Nat.le_refl _)]; simp
/-- What is chosen so far is proper for the visits so far. -/
def inv (t : Int) (v : List SV) (ch : List Int) : Prop := ch.length ≤ v.length ∧ ∀ i : Nat, i < ch.length → oneB t v ch i = true
theorem inv_nil (t : Int) (v : List SV) : inv t v [] := ⟨Nat.zero_le _, fun i h => absurd h (by simp)⟩
theorem oneB_append (t : Int) (v : List SV) (ch : List Int) (x : Int) (i : Nat) (h : i < ch.length) : oneB t v (ch ++ [x]) i = oneB t v ch i := by
  unfold oneB
  rw [rd_append_left _ _ _ h, List.take_append_of_le_length (by omega)]
theorem oneB_last (t : Int) (v : List SV) (ch : List Int) (x : Int) : oneB t v (ch ++ [x]) ch.length = ((rd_T28 v ch.length).f2.contains x && fitsB t v ch x) := by
  unfold oneB
  rw [rd_append_last, List.take_left']
  rfl
theorem inv_append {t : Int} {v : List SV} {ch : List Int} {x : Int} (h : inv t v ch) (hl : ch.length < v.length) (hx : (rd_T28 v ch.length).f2.contains x = true) (hf : fitsB t v ch x = true) : inv t v (ch ++ [x]) := by
  refine ⟨by rw [List.length_append, List.length_singleton]; omega, fun i hi => ?_⟩
  rw [List.length_append, List.length_singleton] at hi
  by_cases e : i = ch.length
  · rw [e, oneB_last, hx, hf]; rfl
  · rw [oneB_append _ _ _ _ _ (by omega)]; exact h.2 i (by omega)
theorem proper_step {t : Int} {v : List SV} {ch : List Int} {x : Int} (hv : vldB t v = true) (h : inv t v ch) (hl : ch.length < v.length) (hx : (rd_T28 v ch.length).f2.contains x = true) : properB t (v.take (ch.length + 1)) (ch ++ [x]) = fitsB t v ch x := by
  obtain ⟨t1, t2, hv16, hok⟩ := (vldB_iff _ _).1 hv
  have hlt : (v.take (ch.length + 1)).length = ch.length + 1 := by rw [List.length_take]; omega
  have hla : (ch ++ [x]).length = ch.length + 1 := by rw [List.length_append, List.length_singleton]
  have hv' : vldB t (v.take (ch.length + 1)) = true := (vldB_iff _ _).2 ⟨t1, t2, by omega, fun i hi => by
    rw [take_append_one v ch.length hl i (by omega)]; exact hok i (by omega)⟩
  have hcong : ∀ i, i < ch.length + 1 → oneB t (v.take (ch.length + 1)) (ch ++ [x]) i = oneB t v (ch ++ [x]) i := by
    intro i hi
    unfold oneB
    rw [take_append_one v ch.length hl i hi, fitsB_congr t (v.take (ch.length + 1)) v ((ch ++ [x]).take i) ((ch ++ [x]).take i) _ rfl (fun _ _ => rfl) (fun j hj => take_append_one v ch.length hl j (by rw [List.length_take] at hj; omega))]
  unfold properB
  rw [hv', hlt, hla, decide_eq_true rfl, Bool.true_and, Bool.true_and, Bool.eq_iff_iff, allF_iff]
  constructor
  · intro h1
    have := h1 ch.length (by omega) (by omega)
    rw [hcong _ (by omega), oneB_last, hx, Bool.true_and] at this
    exact this
  · intro hf j _ hj
    rw [hcong j hj]
    by_cases e : j = ch.length
    · rw [e, oneB_last, hx, hf]; rfl
    · rw [oneB_append _ _ _ _ _ (by omega)]; exact h.2 j (by omega)
def resR (bu : Nat) (ch : List Int) : Res → Bool × Int × Bool × List Int → Prop
  | .found o l, r => r = (true, ((bu - l : Nat) : Int), false, o)
  | .fail l, r => r = (false, ((bu - l : Nat) : Int), false, ch)
  | .over, r => ∃ c, r = (false, ((bu + 1 : Nat) : Int), true, c)
theorem vis_ev (t : Int) (v : List SV) (hv : vldB t v = true) (bu : Nat) (hbu : bu ≤ 1048576) : ∀ (d : Nat) (ch : List Int) (l : Nat), ch.length + d = v.length → l ≤ bu → inv t v ch → ∃ r, Ev (fun k => vis_f k t v (bu : Int) ((bu - l : Nat) : Int) false ch) r ∧ resR bu ch (srch t v d ch l) r := by
  obtain ⟨t1, t2, hv16, hok⟩ := (vldB_iff _ _).1 hv
  intro d
  induction d with
  | zero =>
    intro ch l hd hl hinv
    exact ⟨_, Ev.step (fun k => by simp only [vis_f]; rw [if_pos (by omega)]) (Ev.now _), rfl⟩
  | succ d ih =>
    intro ch l hd hl hinv
    have h8 := ((okV_iff _ _).1 (hok ch.length (by omega))).2.2.2.2.1
    obtain ⟨tr, htr⟩ : ∃ tr, tr = (rd_T28 v ch.length).f2 := ⟨_, rfl⟩
    rw [← htr] at h8
    have main : ∀ (e i l : Nat) (c2 : List Int), i + e = tr.length → l ≤ bu → ch.length ≤ c2.length → c2.take ch.length = ch → ∃ r, Ev (fun k => vis_l k t v (bu : Int) ((bu - l : Nat) : Int) false ch.length c2 (i : Int)) r ∧ resR bu ch (goT (srch t v d) (fitsB t v ch) ch (tr.drop i) l) r := by
      intro e
      induction e with
      | zero =>
        intro i l c2 hi hl h1 h2
        rw [List.drop_eq_nil_of_le (by omega)]
        exact ⟨_, Ev.step (fun k => by simp only [vis_l]; rw [← htr, if_neg (by omega), if_pos h1, h2]) (Ev.now _), rfl⟩
      | succ e ihe =>
        intro i l c2 hi hl h1 h2
        have hlt : i < tr.length := by omega
        have hg : rd tr i = tr[i] := by unfold rd; rw [Int.toNat_natCast, List.getD_eq_getElem?_getD, List.getElem?_eq_getElem hlt]; rfl
        rw [List.drop_eq_getElem_cons hlt, ← hg]
        have hmem : (rd_T28 v ch.length).f2.contains (rd tr i) = true := by rw [← htr, List.contains_iff_mem, hg]; exact List.getElem_mem hlt
        have hw : wrap64 (((bu - l : Nat) : Int) + 1) = ((bu - l + 1 : Nat) : Int) := ws _ (by omega)
        cases l with
        | zero =>
          exact ⟨(false, ((bu + 1 : Nat) : Int), true, c2), Ev.step (fun k => by simp only [vis_l]; rw [← htr, if_pos (by omega), hw, if_pos (by omega), Nat.sub_zero]) (Ev.now _), ⟨_, rfl⟩⟩
        | succ l =>
          have hw' : wrap64 (((bu - (l + 1) : Nat) : Int) + 1) = ((bu - l : Nat) : Int) := by rw [hw]; congr 1; omega
          have hprop := rproper_ev t (v.take (ch.length + 1)) (ch ++ [rd tr i])
          rw [proper_step hv hinv (by omega) hmem] at hprop
          cases hp : fitsB t v ch (rd tr i) with
          | false =>
            rw [hp] at hprop
            obtain ⟨r, hr, hres⟩ := ihe (i + 1) l (ch ++ [rd tr i]) (by omega) (by omega) (by rw [List.length_append]; omega) (by rw [List.take_left'] ; rfl)
            refine ⟨r, Ev.step (fun k => by simp only [vis_l]; rw [← htr, if_pos (by omega), hw', if_neg (by omega), if_pos (by omega), if_pos h1, if_pos (by omega), h2]) (Ev.bind hprop (Ev.congr (fun k => by rw [if_neg (by simp), if_neg (by simp), ws i (by omega)]) hr)), ?_⟩
            simp only [goT, hp, Bool.false_eq_true, if_false]
            exact hres
          | true =>
            rw [hp] at hprop
            simp only [goT, hp, if_true]
            obtain ⟨r1, hr1, hres1⟩ := ih (ch ++ [rd tr i]) l (by rw [List.length_append, List.length_singleton]; omega) (by omega) (inv_append hinv (by omega) hmem hp)
            have hstep : ∀ r, Ev (fun k => if r1.1 = true then some r1 else if r1.2.2.1 = true then some r1 else vis_l k t v (bu : Int) r1.2.1 r1.2.2.1 ch.length r1.2.2.2 ((i + 1 : Nat) : Int)) r → Ev (fun k => vis_l k t v (bu : Int) ((bu - (l + 1) : Nat) : Int) false ch.length c2 (i : Int)) r := fun r h =>
              Ev.step (fun k => by simp only [vis_l]; rw [← htr, if_pos (by omega), hw', if_neg (by omega), if_pos (by omega), if_pos h1, if_pos (by omega), h2, ws i (by omega)]) (Ev.bind hprop (Ev.congr (fun k => by rw [if_pos rfl]) (Ev.bind hr1 h)))
            have hle := srch_le t v d (ch ++ [rd tr i]) l
            cases hr : srch t v d (ch ++ [rd tr i]) l with
            | found o l' =>
              rw [hr] at hres1
              have e1 : r1 = (true, ((bu - l' : Nat) : Int), false, o) := hres1
              subst e1
              exact ⟨_, hstep _ (Ev.congr (fun k => by rw [if_pos rfl]) (Ev.now _)), rfl⟩
            | fail l' =>
              rw [hr] at hres1
              have e1 : r1 = (false, ((bu - l' : Nat) : Int), false, ch ++ [rd tr i]) := hres1
              subst e1
              obtain ⟨r, hr2, hres2⟩ := ihe (i + 1) l' (ch ++ [rd tr i]) (by omega) (by have := hle.2 l' hr; omega) (by rw [List.length_append]; omega) (by rw [List.take_left']; rfl)
              exact ⟨r, hstep _ (Ev.congr (fun k => by rw [if_neg (by simp), if_neg (by simp)]) hr2), hres2⟩
            | over =>
              rw [hr] at hres1
              obtain ⟨c, e1⟩ := hres1
              subst e1
              exact ⟨_, hstep _ (Ev.congr (fun k => by rw [if_neg (by simp), if_pos rfl]) (Ev.now _)), ⟨c, rfl⟩⟩
    obtain ⟨r, hr, hres⟩ := main tr.length 0 l ch (by omega) hl (Nat.le_refl _) (List.take_length)
    refine ⟨r, Ev.step (fun k => by simp only [vis_f]; rw [if_neg (by omega), if_pos (by omega)]; rfl) hr, ?_⟩
    simp only [srch]
    rw [← htr]
    exact hres
/-! #### Assign -/
def resA (bu : Nat) : Res → List Int × Int × Int
  | .found o l => (o, ((bu - l : Nat) : Int), 0)
  | .fail l => ([], ((bu - l : Nat) : Int), 14)
  | .over => ([], 0, 15)
def asgB (t : Int) (v : List SV) (bu : Int) : List Int × Int × Int := if vldB t v = true then (if 1 ≤ bu ∧ bu ≤ 1048576 then resA bu.toNat (srch t v v.length [] bu.toNat) else ([], 0, 4)) else ([], 0, 1)
theorem assign_ev (t : Int) (v : List SV) (bu : Int) : Ev (fun k => platform_Assign.f k t v bu) (asgB t v bu) := by
  unfold platform_Assign.f asgB
  refine Ev.bind (valid_ev t v) ?_
  cases hv : vldB t v with
  | false => exact Ev.congr (fun k => by rw [if_neg (by simp), if_neg (by simp)]) (Ev.now _)
  | true =>
    rw [if_pos rfl]
    by_cases h1 : bu < 1
    · rw [if_neg (by omega)]; exact Ev.congr (fun k => by rw [if_pos rfl, if_pos h1]) (Ev.now _)
    · by_cases h2 : 1048576 < bu
      · rw [if_neg (by omega)]; exact Ev.congr (fun k => by rw [if_pos rfl, if_neg h1, if_pos h2]) (Ev.now _)
      · rw [if_pos (by omega)]
        have hb : ((bu.toNat : Nat) : Int) = bu := Int.toNat_of_nonneg (by omega)
        have he := ext_ev t v hv v.length [] bu.toNat (by simp) (by omega)
        rw [hb] at he
        have hle := srch_le t v v.length [] bu.toNat
        refine Ev.congr (fun k => by rw [if_pos rfl, if_neg h1, if_neg h2]) (Ev.bind he ?_)
        cases hr : srch t v v.length [] bu.toNat with
        | found o l =>
          have := hle.1 o l hr
          refine Ev.congr (f := fun _ => some (resA bu.toNat (.found o l))) (fun k => ?_) (Ev.now _)
          simp only [resP, resA, Bool.false_eq_true, if_false, if_true]
          rw [w64 _ (by omega) (by omega), show bu - (l : Int) = ((bu.toNat - l : Nat) : Int) by omega]
        | fail l =>
          have := hle.2 l hr
          refine Ev.congr (f := fun _ => some (resA bu.toNat (.fail l))) (fun k => ?_) (Ev.now _)
          simp only [resP, resA, Bool.false_eq_true, if_false]
          rw [w64 _ (by omega) (by omega), show bu - (l : Int) = ((bu.toNat - l : Nat) : Int) by omega]
        | over => exact Ev.now _
theorem rassign_ev (t : Int) (v : List SV) (bu : Int) : Ev (fun k => railplanref19_Assign.f k t v bu) (asgB t v bu) := by
  unfold railplanref19_Assign.f asgB
  refine Ev.bind (rvalid_ev t v) ?_
  cases hv : vldB t v with
  | false => exact Ev.congr (fun k => by rw [if_neg (by simp), if_neg (by simp)]) (Ev.now _)
  | true =>
    rw [if_pos rfl]
    by_cases h1 : 1 ≤ bu ∧ bu ≤ 1048576
    · rw [if_pos h1]
      have hb : ((bu.toNat : Nat) : Int) = bu := Int.toNat_of_nonneg (by omega)
      obtain ⟨r, he, hres⟩ := vis_ev t v hv bu.toNat (by omega) v.length [] bu.toNat (by simp) (Nat.le_refl _) (inv_nil t v)
      rw [Nat.sub_self, hb] at he
      replace he : Ev (fun k => vis_f k t v bu 0 false []) r := he
      refine Ev.congr (fun k => by rw [if_pos rfl, in_f, decide_eq_true h1.1, decide_eq_true h1.2]; simp only [Option.bind_some, Bool.and_self, if_true]; rfl) (Ev.bind he ?_)
      cases hr : srch t v v.length [] bu.toNat with
      | found o l => rw [hr] at hres; have e1 : r = (true, ((bu.toNat - l : Nat) : Int), false, o) := hres; subst e1; exact Ev.now _
      | fail l => rw [hr] at hres; have e1 : r = (false, ((bu.toNat - l : Nat) : Int), false, []) := hres; subst e1; exact Ev.now _
      | over => rw [hr] at hres; obtain ⟨c, e1⟩ := hres; subst e1; exact Ev.now _
    · rw [if_neg h1]
      have e : (decide (1 ≤ bu) && decide (bu ≤ 1048576)) = false := by simpa using h1
      exact Ev.congr (fun k => by rw [if_pos rfl, in_f, e]; simp only [Option.bind_some, Bool.false_eq_true, if_false]) (Ev.now _)
end Go.Proofs.Ytdgdjbehddeepaa.Pure
