/- Plain facts about the search: enough budget; what is found is proper and the first; where it fails there is nothing. No condition but those stated. -/
import Derived.Test.YtdgdjbehddeepaaPlatD
namespace Go.Proofs.Ytdgdjbehddeepaa.Pure
set_option linter.unusedVariables false
set_option linter.unusedSimpArgs false
open Go.RowKit Go.Proofs.Ytdgdjbehddeepaa.PAll Go.Proofs.YtdgdjbehddeepaaW.PrintWords Go.Proofs.YtdgdjbehddeepaaW.PrintLast
/-! #### enough budget -/
def cost : Nat → Nat
  | 0 => 0
  | d + 1 => 4 * (1 + cost d)
theorem goT_cost {f : List Int → Nat → Res} {p : Int → Bool} {ch : List Int} {M : Nat} (hf : ∀ c l, M ≤ l → f c l ≠ .over ∧ (∀ o l', f c l = .found o l' → l ≤ l' + M) ∧ (∀ l', f c l = .fail l' → l ≤ l' + M)) :
    ∀ (xs : List Int) (l : Nat), xs.length * (1 + M) ≤ l → goT f p ch xs l ≠ .over ∧ (∀ o l', goT f p ch xs l = .found o l' → l ≤ l' + xs.length * (1 + M)) ∧ (∀ l', goT f p ch xs l = .fail l' → l ≤ l' + xs.length * (1 + M))
  | [], l, h => ⟨(by simp [goT]), fun o l' h => (by simp [goT] at h), fun l' h => (by simp [goT] at h; omega)⟩
  | x :: xs, 0, h => by rw [List.length_cons, Nat.add_mul] at h; omega
  | x :: xs, l + 1, h => by
    rw [List.length_cons, Nat.add_mul, Nat.one_mul] at h ⊢
    by_cases hp : p x = true
    · simp only [goT, hp, if_true]
      obtain ⟨h1, h2, h3⟩ := hf (ch ++ [x]) l (by omega)
      cases hr : f (ch ++ [x]) l with
      | found o2 l2 => have := h2 o2 l2 hr; exact ⟨(by simp), fun o l' e => (by injection e; omega), fun l' e => (by cases e)⟩
      | fail l2 =>
        have := h3 l2 hr
        obtain ⟨q1, q2, q3⟩ := goT_cost (p := p) (ch := ch) hf xs l2 (by omega)
        exact ⟨q1, fun o l' e => (by have := q2 o l' e; omega), fun l' e => (by have := q3 l' e; omega)⟩
      | over => exact absurd hr h1
    · simp only [goT, hp, if_false, Bool.false_eq_true]
      obtain ⟨q1, q2, q3⟩ := goT_cost (p := p) (ch := ch) hf xs l (by omega)
      exact ⟨q1, fun o l' e => (by have := q2 o l' e; omega), fun l' e => (by have := q3 l' e; omega)⟩
theorem srch_cost (t : Int) (v : List SV) (h4 : ∀ i : Nat, i < v.length → (rd_T28 v i).f2.length ≤ 4) : ∀ (d : Nat) (ch : List Int) (l : Nat), cost d ≤ l → srch t v d ch l ≠ .over ∧ (∀ o l', srch t v d ch l = .found o l' → l ≤ l' + cost d) ∧ (∀ l', srch t v d ch l = .fail l' → l ≤ l' + cost d)
  | 0, ch, l, h => ⟨(by simp [srch]), fun o l' e => (by simp only [srch] at e; injection e; omega), fun l' e => (by simp [srch] at e)⟩
  | d + 1, ch, l, h => by
    simp only [srch, cost] at h ⊢
    have hl : (rd_T28 v ch.length).f2.length ≤ 4 := by
      rcases Nat.lt_or_ge ch.length v.length with h5 | h5
      · exact h4 _ h5
      · rw [show rd_T28 v ch.length = v.getD ch.length z28 from rfl, List.getD_eq_getElem?_getD, List.getElem?_eq_none h5]
        show ([] : List Int).length ≤ 4
        simp
    have hm : (rd_T28 v ch.length).f2.length * (1 + cost d) ≤ 4 * (1 + cost d) := Nat.mul_le_mul_right _ hl
    obtain ⟨q1, q2, q3⟩ := goT_cost (p := fitsB t v ch) (ch := ch) (fun c l hl => srch_cost t v h4 d c l hl) (rd_T28 v ch.length).f2 l (by omega)
    exact ⟨q1, fun o l' e => (by have := q2 o l' e; omega), fun l' e => (by have := q3 l' e; omega)⟩
theorem cost_mono : ∀ {a b : Nat}, a ≤ b → cost a ≤ cost b
  | 0, b, _ => Nat.zero_le _
  | a + 1, 0, h => by omega
  | a + 1, b + 1, h => by have := cost_mono (show a ≤ b by omega); simp only [cost]; omega
theorem cost7 {d : Nat} (h : d ≤ 7) : cost d ≤ 21844 := Nat.le_trans (cost_mono h) (by decide)
/-! #### what the search finds -/
def Ext (t : Int) (v : List SV) (ch x : List Int) : Prop := inv t v x ∧ x.length = v.length ∧ x.take ch.length = ch
def LexLe (o x : List Int) : Prop := o = x ∨ ∃ i : Nat, i < o.length ∧ (∀ j : Nat, j < i → rd o j = rd x j) ∧ rd o i < rd x i
theorem proper_iff (t : Int) (v : List SV) (hv : vldB t v = true) (x : List Int) : properB t v x = true ↔ Ext t v [] x := by
  unfold properB Ext inv
  rw [hv, Bool.true_and, Bool.and_eq_true, decide_eq_true_eq, allF_iff]
  constructor
  · rintro ⟨h1, h2⟩; exact ⟨⟨by omega, fun i hi => h2 i (by omega) hi⟩, h1, rfl⟩
  · rintro ⟨⟨_, h2⟩, h1, _⟩; exact ⟨h1, fun j _ hj => h2 j hj⟩
theorem ext_next {t : Int} {v : List SV} {ch x : List Int} (h : Ext t v ch x) (hl : ch.length < v.length) : x.take (ch.length + 1) = ch ++ [rd x ch.length] ∧ rd x ch.length ∈ (rd_T28 v ch.length).f2 ∧ fitsB t v ch (rd x ch.length) = true := by
  obtain ⟨⟨h1, h2⟩, h3, h4⟩ := h
  have := h2 ch.length (by omega)
  unfold oneB at this
  rw [Bool.and_eq_true, h4, List.contains_iff_mem] at this
  refine ⟨?_, this.1, this.2⟩
  rw [List.take_succ_eq_append_getElem (by omega), h4, rd_get _ _ (by omega)]
theorem ext_step {t : Int} {v : List SV} {ch x : List Int} {y : Int} (h : Ext t v ch x) (hl : ch.length < v.length) (hy : rd x ch.length = y) : Ext t v (ch ++ [y]) x := by
  refine ⟨h.1, h.2.1, ?_⟩
  rw [List.length_append, List.length_singleton, (ext_next h hl).1, hy]
theorem ext_back {t : Int} {v : List SV} {ch x : List Int} {y : Int} (h : Ext t v (ch ++ [y]) x) : Ext t v ch x ∧ rd x ch.length = y := by
  obtain ⟨h1, h2, h3⟩ := h
  rw [List.length_append, List.length_singleton] at h3
  have hlen : ch.length + 1 ≤ x.length := by
    have := congrArg List.length h3
    rw [List.length_take, List.length_append, List.length_singleton] at this
    omega
  refine ⟨⟨h1, h2, ?_⟩, ?_⟩
  · have := congrArg (List.take ch.length) h3
    rw [List.take_take, List.take_left'] at this
    · rwa [Nat.min_eq_left (by omega)] at this
    · rfl
  · have : rd (x.take (ch.length + 1)) ch.length = rd (ch ++ [y]) ch.length := by rw [h3]
    rwa [rd_take _ _ _ (by omega), rd_append_last] at this
theorem lex_at {t : Int} {v : List SV} {ch o x : List Int} (ho : Ext t v ch o) (hx : Ext t v ch x) (hl : ch.length < v.length) (h : rd o ch.length < rd x ch.length) : LexLe o x := by
  refine .inr ⟨ch.length, by have := ho.2.1; omega, fun j hj => ?_, h⟩
  rw [← rd_take o ch.length j hj, ← rd_take x ch.length j hj, ho.2.2, hx.2.2]
theorem goT_ok {t : Int} {v : List SV} {ch : List Int} {f : List Int → Nat → Res} (hl : ch.length < v.length) (hinv : inv t v ch)
    (hf : ∀ y l, inv t v (ch ++ [y]) → (∀ o l', f (ch ++ [y]) l = .found o l' → Ext t v (ch ++ [y]) o ∧ ∀ x, Ext t v (ch ++ [y]) x → LexLe o x) ∧ (∀ l', f (ch ++ [y]) l = .fail l' → ∀ x, ¬ Ext t v (ch ++ [y]) x)) :
    ∀ (xs : List Int) (l : Nat), xs.Pairwise (· < ·) → (∀ y ∈ xs, y ∈ (rd_T28 v ch.length).f2) →
      (∀ o l', goT f (fitsB t v ch) ch xs l = .found o l' → Ext t v ch o ∧ ∀ x, Ext t v ch x → rd x ch.length ∈ xs → LexLe o x) ∧ (∀ l', goT f (fitsB t v ch) ch xs l = .fail l' → ∀ x, Ext t v ch x → rd x ch.length ∉ xs)
  | [], l, hs, hm => ⟨fun o l' e => (by simp [goT] at e), fun l' e x hx h => (by cases h)⟩
  | y :: xs, 0, hs, hm => ⟨fun o l' e => (by simp [goT] at e), fun l' e => (by simp [goT] at e)⟩
  | y :: xs, l + 1, hs, hm => by
    rw [List.pairwise_cons] at hs
    have hy := hm y (List.mem_cons_self)
    have hm' : ∀ z ∈ xs, z ∈ (rd_T28 v ch.length).f2 := fun z hz => hm z (List.mem_cons_of_mem _ hz)
    by_cases hp : fitsB t v ch y = true
    · simp only [goT, hp, if_true]
      have hi := inv_append hinv hl (List.contains_iff_mem.2 hy) hp
      obtain ⟨h1, h2⟩ := hf y l hi
      cases hr : f (ch ++ [y]) l with
      | found o2 l2 =>
        refine ⟨fun o l' e => ?_, fun l' e => (by cases e)⟩
        injection e with e1 e2
        subst e1
        obtain ⟨q1, q2⟩ := h1 o2 l2 hr
        refine ⟨(ext_back q1).1, fun x hx hmem => ?_⟩
        rcases List.mem_cons.1 hmem with hm2 | hm2
        · exact q2 x (ext_step hx hl hm2)
        · exact lex_at (ext_back q1).1 hx hl (by rw [(ext_back q1).2]; exact hs.1 _ hm2)
      | fail l2 =>
        obtain ⟨q1, q2⟩ := goT_ok hl hinv hf xs l2 hs.2 hm'
        have hno := h2 l2 hr
        refine ⟨fun o l' e => ?_, fun l' e x hx hmem => ?_⟩
        · obtain ⟨r1, r2⟩ := q1 o l' e
          refine ⟨r1, fun x hx hmem => ?_⟩
          rcases List.mem_cons.1 hmem with hm2 | hm2
          · exact absurd (ext_step hx hl hm2) (hno x)
          · exact r2 x hx hm2
        · rcases List.mem_cons.1 hmem with hm2 | hm2
          · exact hno x (ext_step hx hl hm2)
          · exact q2 l' e x hx hm2
      | over => exact ⟨fun o l' e => (by cases e), fun l' e => (by cases e)⟩
    · simp only [goT, hp, if_false, Bool.false_eq_true]
      obtain ⟨q1, q2⟩ := goT_ok hl hinv hf xs l hs.2 hm'
      have hno : ∀ x, Ext t v ch x → rd x ch.length ≠ y := fun x hx e => hp (by rw [← e]; exact (ext_next hx hl).2.2)
      refine ⟨fun o l' e => ?_, fun l' e x hx hmem => ?_⟩
      · obtain ⟨r1, r2⟩ := q1 o l' e
        refine ⟨r1, fun x hx hmem => ?_⟩
        rcases List.mem_cons.1 hmem with hm2 | hm2
        · exact absurd hm2 (hno x hx)
        · exact r2 x hx hm2
      · rcases List.mem_cons.1 hmem with hm2 | hm2
        · exact hno x hx hm2
        · exact q2 l' e x hx hm2
theorem okT_pairwise (l : List Int) (h : okT l = true) : l.Pairwise (· < ·) := by
  unfold okT at h
  rw [allF_iff] at h
  have h1 : ∀ i : Nat, i + 1 < l.length → rd l i < rd l ((i + 1 : Nat) : Int) := by
    intro i hi
    have := of_decide_eq_true (h (i + 1) (by omega) hi)
    unfold prevT at this
    rwa [if_neg (by omega), Nat.add_sub_cancel] at this
  have h2 : ∀ (d i : Nat), i + d + 1 < l.length → rd l i < rd l ((i + d + 1 : Nat) : Int) := by
    intro d
    induction d with
    | zero => intro i hi; exact h1 i hi
    | succ d ih =>
      intro i hi
      have a := ih i (by omega)
      have b := h1 (i + d + 1) (by omega)
      exact Int.lt_trans a b
  rw [List.pairwise_iff_getElem]
  intro i j hi hj hij
  have := h2 (j - i - 1) i (by omega)
  rw [show i + (j - i - 1) + 1 = j by omega, rd_get _ _ hi, rd_get _ _ hj] at this
  exact this
theorem srch_ok (t : Int) (v : List SV) (hv : vldB t v = true) : ∀ (d : Nat) (ch : List Int) (l : Nat), ch.length + d = v.length → inv t v ch →
    (∀ o l', srch t v d ch l = .found o l' → Ext t v ch o ∧ ∀ x, Ext t v ch x → LexLe o x) ∧ (∀ l', srch t v d ch l = .fail l' → ∀ x, ¬ Ext t v ch x)
  | 0, ch, l, hd, hinv => by
    refine ⟨fun o l' e => ?_, fun l' e => (by simp [srch] at e)⟩
    simp only [srch] at e
    injection e with e1 e2
    subst e1
    refine ⟨⟨hinv, by omega, List.take_length⟩, fun x hx => .inl ?_⟩
    have := hx.2.2
    rw [List.take_of_length_le (by have := hx.2.1; omega)] at this
    exact this.symm
  | d + 1, ch, l, hd, hinv => by
    obtain ⟨t1, t2, h16, hok⟩ := (vldB_iff _ _).1 hv
    have hl : ch.length < v.length := by omega
    have hs := okT_pairwise _ ((okV_iff _ _).1 (hok ch.length hl)).2.2.2.2.2
    simp only [srch]
    obtain ⟨q1, q2⟩ := goT_ok hl hinv (fun y l hi => srch_ok t v hv d (ch ++ [y]) l (by rw [List.length_append, List.length_singleton]; omega) hi) _ l hs (fun _ h => h)
    refine ⟨fun o l' e => ?_, fun l' e x hx => q2 l' e x hx (ext_next hx hl).2.1⟩
    obtain ⟨r1, r2⟩ := q1 o l' e
    exact ⟨r1, fun x hx => r2 x hx (ext_next hx hl).2.1⟩
/-- Assign with a budget that is enough: the first proper choice, or none. -/
theorem asg_first (t : Int) (v : List SV) (hv : vldB t v = true) (h7 : v.length ≤ 7) (h4 : ∀ i : Nat, i < v.length → (rd_T28 v i).f2.length ≤ 4) (bu : Int) (hb : 21844 ≤ bu) (hb2 : bu ≤ 1048576) :
    (∃ o u, asgB t v bu = (o, u, 0) ∧ 0 ≤ u ∧ u ≤ 21844 ∧ properB t v o = true ∧ ∀ x, properB t v x = true → LexLe o x) ∨ (∃ u, asgB t v bu = ([], u, 14) ∧ 0 ≤ u ∧ u ≤ 21844 ∧ ∀ x, properB t v x = false) := by
  have hc := cost7 h7
  obtain ⟨h1, h2, h3⟩ := srch_cost t v h4 v.length [] bu.toNat (by omega)
  obtain ⟨h5, h6⟩ := srch_ok t v hv v.length [] bu.toNat (by simp) (inv_nil t v)
  unfold asgB
  rw [if_pos hv, if_pos (by omega)]
  cases hr : srch t v v.length [] bu.toNat with
  | found o l =>
    have := h2 o l hr
    have hle := (srch_le t v v.length [] bu.toNat).1 o l hr
    obtain ⟨q1, q2⟩ := h5 o l hr
    exact .inl ⟨o, _, rfl, by omega, by omega, (proper_iff t v hv o).2 q1, fun x hx => q2 x ((proper_iff t v hv x).1 hx)⟩
  | fail l =>
    have := h3 l hr
    have hle := (srch_le t v v.length [] bu.toNat).2 l hr
    refine .inr ⟨_, rfl, by omega, by omega, fun x => ?_⟩
    cases hx : properB t v x with
    | false => rfl
    | true => exact absurd ((proper_iff t v hv x).1 hx) (h6 l hr x)
  | over => exact absurd hr h1
end Go.Proofs.Ytdgdjbehddeepaa.Pure
