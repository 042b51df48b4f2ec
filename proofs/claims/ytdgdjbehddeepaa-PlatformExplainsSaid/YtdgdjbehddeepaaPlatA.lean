/- Plain facts about visits: what Valid, Overlap, fits and Proper of the program and of the reference answer. No condition but those stated. -/
import Derived.Test.YtdgdjbehddeepaaPAllxf21
import Derived.Test.YtdgdjbehddeepaaPAllxf35
import Derived.Test.YtdgdjbehddeepaaPAllxf21
import Derived.Test.YtdgdjbehddeepaaPAllxf18
namespace Go.Proofs.Ytdgdjbehddeepaa.Pure
set_option linter.unusedVariables false
set_option linter.unusedSimpArgs false
open Go.RowKit Go.Proofs.Ytdgdjbehddeepaa.PAll Go.Proofs.YtdgdjbehddeepaaW.PrintWords Go.Proofs.YtdgdjbehddeepaaW.PrintLast
abbrev SV := S28

theorem w64 (x : Int) (h0 : -9223372036854775808 ≤ x) (h1 : x ≤ 9223372036854775807) : wrap64 x = x := by unfold wrap64; omega
theorem ws (i : Nat) (h : i < 4611686018427387904) : wrap64 ((i : Int) + 1) = ((i + 1 : Nat) : Int) := by rw [w64 _ (by omega) (by omega)]; rfl
theorem u64_wrap (a : Int) : IntKind.u64.wrap a = a % 18446744073709551616 := by
  unfold IntKind.wrap
  simp only [IntKind.signed, IntKind.bits]
  simp
/-! #### loops that ask the same of every index -/
def allF (P : Nat → Bool) (n i : Nat) : Bool := (List.range' i (n - i)).all P
theorem allF_end (P : Nat → Bool) (n i : Nat) (h : n ≤ i) : allF P n i = true := by unfold allF; rw [Nat.sub_eq_zero_of_le h]; rfl
theorem allF_step (P : Nat → Bool) (n i : Nat) (h : i < n) : allF P n i = (P i && allF P n (i + 1)) := by
  unfold allF
  rw [show n - i = (n - (i + 1)) + 1 by omega, List.range'_succ]
  rfl
theorem allF_iff (P : Nat → Bool) (n i : Nat) : allF P n i = true ↔ ∀ j, i ≤ j → j < n → P j = true := by
  unfold allF
  rw [List.all_eq_true]
  constructor
  · intro h j h1 h2
    exact h j (by rw [List.mem_range'_1]; omega)
  · intro h j hj
    rw [List.mem_range'_1] at hj
    exact h j (by omega) (by omega)
theorem loop_all (l : Nat → Nat → Option Bool) (n : Nat) (P : Nat → Bool) (r : Bool)
    (hyes : ∀ i, i < n → P i = true → ∀ b, Ev (fun k => l k (i + 1)) b → Ev (fun k => l k i) b) (hno : ∀ i, i < n → P i = false → Ev (fun k => l k i) false) :
    ∀ d i, i + d = n → (allF P n i = true → Ev (fun k => l k n) r) → Ev (fun k => l k i) (allF P n i && r) := by
  intro d
  induction d with
  | zero =>
    intro i hi hend
    obtain rfl : i = n := by omega
    rw [allF_end P i i (Nat.le_refl _)]
    exact hend (allF_end P i i (Nat.le_refl _))
  | succ d ih =>
    intro i hi hend
    rw [allF_step P n i (by omega)] at hend ⊢
    cases hp : P i with
    | true => rw [hp, Bool.true_and] at hend; exact hyes i (by omega) hp _ (ih (i + 1) (by omega) hend)
    | false => exact hno i (by omega) hp
/-! #### residues -/
theorem tmod_fix (a b : Int) (hb : 0 < b) (h0 : -4611686018427387904 ≤ a) (h1 : a ≤ 4611686018427387904) (h2 : b ≤ 4611686018427387904) :
    (if Int.tmod a b < 0 then (some (wrap64 (Int.tmod a b + b))) else some (Int.tmod a b)) = some (a % b) := by
  have e := Int.tmod_eq_emod (a := a) (b := b)
  have q0 := Int.emod_nonneg a (show b ≠ 0 by omega)
  have q1 := Int.emod_lt_of_pos a hb
  have hn : (b.natAbs : Int) = b := by omega
  by_cases h : 0 ≤ a ∨ b ∣ a
  · rw [if_pos h] at e
    simp only [Int.ofNat_zero, Int.natCast_zero, Int.sub_zero] at e
    rw [e, if_neg (by omega)]
  · rw [if_neg h, hn] at e
    have hpos : a % b ≠ 0 := fun hz => h (.inr (Int.dvd_of_emod_eq_zero hz))
    rw [e, if_pos (by omega), w64 _ (by omega) (by omega)]
    congr 1
    omega
theorem amod (a b : Int) (hb : 0 < b) (h0 : -4611686018427387904 ≤ a) (h1 : a ≤ 4611686018427387904) (h2 : b ≤ 4611686018427387904) : arith_Mod.f a b = some (a % b) := by
  unfold arith_Mod.f
  rw [if_neg (by omega), if_neg (by omega)]
  exact tmod_fix a b hb h0 h1 h2
theorem rmod (a b : Int) (hb : 0 < b) (h0 : -4611686018427387904 ≤ a) (h1 : a ≤ 4611686018427387904) (h2 : b ≤ 4611686018427387904) : railplanref1_Mod.f a b = some (a % b) := by
  unfold railplanref1_Mod.f
  rw [if_neg (by omega), if_neg (by omega)]
  exact tmod_fix a b hb h0 h1 h2
/-! #### valid visits -/
def prevT (tr : List Int) (i : Nat) : Int := if i = 0 then -1 else rd tr ((i - 1 : Nat) : Int)
def okT (tr : List Int) : Bool := allF (fun i => decide (prevT tr i < rd tr i)) tr.length 0
def okV (t : Int) (x : SV) : Bool := decide (0 ≤ x.f0) && decide (x.f0 < t) && decide (1 ≤ x.f1) && decide (x.f1 ≤ t) && decide (x.f2.length ≤ 8) && okT x.f2
def vldB (t : Int) (v : List SV) : Bool := decide (2 ≤ t) && decide (t ≤ 7200) && decide (v.length ≤ 16) && allF (fun i => okV t (rd_T28 v i)) v.length 0
theorem okV_iff (t : Int) (x : SV) : okV t x = true ↔ 0 ≤ x.f0 ∧ x.f0 < t ∧ 1 ≤ x.f1 ∧ x.f1 ≤ t ∧ x.f2.length ≤ 8 ∧ okT x.f2 = true := by
  unfold okV; simp [and_assoc]
theorem vldB_iff (t : Int) (v : List SV) : vldB t v = true ↔ 2 ≤ t ∧ t ≤ 7200 ∧ v.length ≤ 16 ∧ ∀ i : Nat, i < v.length → okV t (rd_T28 v i) = true := by
  unfold vldB
  simp only [Bool.and_eq_true, decide_eq_true_eq, allF_iff, and_assoc]
  constructor
  · rintro ⟨h1, h2, h3, h4⟩; exact ⟨h1, h2, h3, fun i hi => h4 i (by omega) hi⟩
  · rintro ⟨h1, h2, h3, h4⟩; exact ⟨h1, h2, h3, fun i _ hi => h4 i hi⟩

theorem valid_l1 (t : Int) (v : List SV) (n x : Int) (tr : List Int) (hl : tr.length ≤ 8) (r : Bool) (hn : okT tr = true → Ev (fun k => platform_Valid.l0 k t v n (wrap64 (x + 1))) r) :
    Ev (fun k => platform_Valid.l1 k t (-1) v n x tr (tr.length : Int) 0) (okT tr && r) := by
  refine loop_all (fun k i => platform_Valid.l1 k t (prevT tr i) v n x tr (tr.length : Int) (i : Int)) tr.length _ r ?_ ?_ tr.length 0 (by omega) (fun ha => ?_)
  rotate_left 2
  · exact Ev.step (fun k => by simp only [platform_Valid.l1]; rw [if_neg (by omega)]) (hn ha)
  · intro i hi hp b hb
    have hp : prevT tr i < rd tr i := of_decide_eq_true hp
    refine Ev.step (fun k => by simp only [platform_Valid.l1]; rw [if_pos (by omega), if_pos (by omega), if_pos (by omega), if_neg (by omega), ws i (by omega)]) (Ev.congr (fun k => ?_) hb)
    have e : prevT tr (i + 1) = rd tr (i : Int) := by unfold prevT; rw [if_neg (by omega)]; simp
    rw [e]
  · intro i hi hp
    have hp : ¬ prevT tr i < rd tr i := of_decide_eq_false hp
    exact Ev.step (fun k => by simp only [platform_Valid.l1]; rw [if_pos (by omega), if_pos (by omega), if_pos (by omega), if_pos (by omega)]) (Ev.now _)
theorem valid_l0 (t : Int) (v : List SV) (hl : v.length ≤ 16) :
    Ev (fun k => platform_Valid.l0 k t v (v.length : Int) 0) (allF (fun i => okV t (rd_T28 v i)) v.length 0) := by
  rw [← Bool.and_true (allF _ _ _)]
  refine loop_all (fun k i => platform_Valid.l0 k t v (v.length : Int) (i : Int)) v.length _ true ?_ ?_ v.length 0 (by omega) (fun _ => ?_)
  rotate_left 2
  · exact Ev.step (fun k => by simp only [platform_Valid.l0]; rw [if_neg (by omega)]) (Ev.now _)
  · intro i hi hp b hb
    obtain ⟨h1, h2, h3, h4, h5, h6⟩ := (okV_iff _ _).1 hp
    have hw := ws i (by omega)
    have hin := valid_l1 t v (v.length : Int) (i : Int) (rd_T28 v i).f2 h5 b (fun _ => by rw [hw]; exact hb)
    rw [h6, Bool.true_and] at hin
    refine Ev.step (fun k => by simp only [platform_Valid.l0]; rw [if_pos (by omega), if_pos (by omega), if_pos (by omega), if_neg (by omega), if_neg (by omega), if_neg (by omega), if_neg (by omega), decide_eq_false (by omega)]) (Ev.step (fun k => by simp only [platform_Valid.j2]; rw [if_neg (by simp)]) hin)
  · intro i hi hp
    by_cases h1 : (rd_T28 v i).f0 < 0
    · exact Ev.step (fun k => by simp only [platform_Valid.l0]; rw [if_pos (by omega), if_pos (by omega), if_pos (by omega), if_pos h1]) (Ev.step (fun k => by simp only [platform_Valid.j2]; rw [if_pos trivial]) (Ev.now _))
    · by_cases h2 : (rd_T28 v i).f0 ≥ t
      · exact Ev.step (fun k => by simp only [platform_Valid.l0]; rw [if_pos (by omega), if_pos (by omega), if_pos (by omega), if_neg h1, if_pos h2]) (Ev.step (fun k => by simp only [platform_Valid.j2]; rw [if_pos trivial]) (Ev.now _))
      · by_cases h3 : (rd_T28 v i).f1 < 1
        · exact Ev.step (fun k => by simp only [platform_Valid.l0]; rw [if_pos (by omega), if_pos (by omega), if_pos (by omega), if_neg h1, if_neg h2, if_pos h3]) (Ev.step (fun k => by simp only [platform_Valid.j2]; rw [if_pos trivial]) (Ev.now _))
        · by_cases h4 : (rd_T28 v i).f1 > t
          · exact Ev.step (fun k => by simp only [platform_Valid.l0]; rw [if_pos (by omega), if_pos (by omega), if_pos (by omega), if_neg h1, if_neg h2, if_neg h3, if_pos h4]) (Ev.step (fun k => by simp only [platform_Valid.j2]; rw [if_pos trivial]) (Ev.now _))
          · by_cases h5 : ((rd_T28 v i).f2.length : Int) > 8
            · exact Ev.step (fun k => by simp only [platform_Valid.l0]; rw [if_pos (by omega), if_pos (by omega), if_pos (by omega), if_neg h1, if_neg h2, if_neg h3, if_neg h4, decide_eq_true h5]) (Ev.step (fun k => by simp only [platform_Valid.j2]; rw [if_pos trivial]) (Ev.now _))
            · have h6 : okT (rd_T28 v i).f2 = false := by
                cases h6 : okT (rd_T28 v i).f2 with
                | false => rfl
                | true => exact absurd ((okV_iff t (rd_T28 v i)).2 ⟨by omega, by omega, by omega, by omega, by omega, h6⟩) (by rw [hp]; simp)
              have hin := valid_l1 t v (v.length : Int) (i : Int) (rd_T28 v i).f2 (by omega) false (fun h => by rw [h6] at h; cases h)
              rw [h6, Bool.false_and] at hin
              exact Ev.step (fun k => by simp only [platform_Valid.l0]; rw [if_pos (by omega), if_pos (by omega), if_pos (by omega), if_neg h1, if_neg h2, if_neg h3, if_neg h4, decide_eq_false h5]) (Ev.step (fun k => by simp only [platform_Valid.j2]; rw [if_neg (by simp)]) hin)
theorem valid_ev (t : Int) (v : List SV) : Ev (fun k => platform_Valid.f k t v) (vldB t v) := by
  unfold vldB
  by_cases h1 : t < 2
  · simp only [decide_eq_false (show ¬ 2 ≤ t by omega), Bool.false_and]
    exact Ev.congr (fun k => by unfold platform_Valid.f; rw [if_pos h1]) (Ev.step (fun k => by simp only [platform_Valid.j0]; rw [if_pos trivial]) (Ev.now _))
  · by_cases h2 : t > 7200
    · simp only [decide_eq_false (show ¬ t ≤ 7200 by omega), Bool.and_false, Bool.false_and]
      exact Ev.congr (fun k => by unfold platform_Valid.f; rw [if_neg h1, if_pos h2]) (Ev.step (fun k => by simp only [platform_Valid.j0]; rw [if_pos trivial]) (Ev.now _))
    · rw [decide_eq_true (show 2 ≤ t by omega), decide_eq_true (show t ≤ 7200 by omega), Bool.true_and, Bool.true_and]
      by_cases h3 : (v.length : Int) > 16
      · rw [decide_eq_false (show ¬ v.length ≤ 16 by omega), Bool.false_and]
        exact Ev.congr (fun k => by unfold platform_Valid.f; rw [if_neg h1, if_neg h2, decide_eq_true h3]) (Ev.step (fun k => by simp only [platform_Valid.j0]; rw [if_pos trivial]) (Ev.now _))
      · rw [decide_eq_true (show v.length ≤ 16 by omega), Bool.true_and]
        exact Ev.congr (fun k => by unfold platform_Valid.f; rw [if_neg h1, if_neg h2, decide_eq_false h3]) (Ev.step (fun k => by simp only [platform_Valid.j0]; rw [if_neg (by simp)]) (valid_l0 t v (by omega)))
/-! #### the reference's Valid -/
theorem in_f (a lo hi : Int) : railplanref19_in.f a lo hi = some (decide (lo ≤ a) && decide (a ≤ hi)) := by
  unfold railplanref19_in.f
  by_cases h : a ≥ lo
  · rw [if_pos h, decide_eq_true (show lo ≤ a from h), Bool.true_and]
  · rw [if_neg h, decide_eq_false (show ¬ lo ≤ a from h), Bool.false_and]
def okT2 (tr : List Int) : Bool := allF (fun i => decide (0 ≤ rd tr i) && (decide (i = 0) || decide (rd tr ((i - 1 : Nat) : Int) < rd tr i))) tr.length 0
theorem okT_eq (tr : List Int) : okT2 tr = okT tr := by
  rw [Bool.eq_iff_iff]
  unfold okT okT2
  rw [allF_iff, allF_iff]
  constructor
  · intro h j h0 h1
    have := h j h0 h1
    simp only [Bool.and_eq_true, Bool.or_eq_true, decide_eq_true_eq] at this
    unfold prevT
    by_cases hj : j = 0
    · rw [if_pos hj]; simp; omega
    · rw [if_neg hj]; simp; omega
  · intro h
    have hb : ∀ j, j < tr.length → prevT tr j < rd tr j := fun j hj => of_decide_eq_true (h j (by omega) hj)
    have hn : ∀ j, j < tr.length → 0 ≤ rd tr j := by
      intro j
      induction j with
      | zero => intro hj; have := hb 0 hj; unfold prevT at this; rw [if_pos rfl] at this; omega
      | succ j ih => intro hj; have h1 := hb (j + 1) hj; unfold prevT at h1; rw [if_neg (by omega), Nat.add_sub_cancel] at h1; have h2 := ih (by omega); omega
    intro j h0 h1
    have h2 := hb j h1
    have h3 := hn j h1
    unfold prevT at h2
    simp only [Bool.and_eq_true, Bool.or_eq_true, decide_eq_true_eq]
    refine ⟨h3, ?_⟩
    by_cases hj : j = 0
    · exact .inl hj
    · rw [if_neg hj] at h2; exact .inr h2
theorem rvalid_l1 (t : Int) (v : List SV) (n : Int) (x : Nat) (hx : x < v.length) (hl : (rd_T28 v x).f2.length ≤ 8) (r : Bool) (hn : okT2 (rd_T28 v x).f2 = true → Ev (fun k => railplanref19_ValidVisits.l0 k t v n (wrap64 ((x : Int) + 1))) r) :
    Ev (fun k => railplanref19_ValidVisits.l1 k t v (x : Int) n (x : Int) ((rd_T28 v x).f2.length : Int) 0) (okT2 (rd_T28 v x).f2 && r) := by
  refine loop_all (fun k i => railplanref19_ValidVisits.l1 k t v (x : Int) n (x : Int) ((rd_T28 v x).f2.length : Int) (i : Int)) (rd_T28 v x).f2.length _ r ?_ ?_ (rd_T28 v x).f2.length 0 (by omega) (fun ha => ?_)
  · intro i hi hp b hb
    simp only [Bool.and_eq_true, Bool.or_eq_true, decide_eq_true_eq] at hp
    refine Ev.step (f := fun k => railplanref19_ValidVisits.l1 k t v (x : Int) n (x : Int) ((rd_T28 v x).f2.length : Int) ((i + 1 : Nat) : Int)) (fun k => ?_) hb
    simp only [railplanref19_ValidVisits.l1]
    rw [if_pos (by omega), if_pos (by omega), if_pos (by omega), if_pos (by omega), if_pos (by omega), if_neg (show ¬ rd (rd_T28 v x).f2 i < 0 from by have := hp.1; omega), ws i (by omega)]
    by_cases hj : i = 0
    · rw [if_neg (by omega)]
    · have e : wrap64 ((i : Int) - 1) = ((i - 1 : Nat) : Int) := by rw [w64 _ (by omega) (by omega)]; omega
      rw [if_pos (by omega), e, if_pos (by omega), if_pos (by omega), if_neg (by have := hp.2.resolve_left hj; omega)]
  · intro i hi hp
    refine Ev.step (f := fun _ => some false) (fun k => ?_) (Ev.now _)
    simp only [railplanref19_ValidVisits.l1]
    rw [if_pos (by omega), if_pos (by omega), if_pos (by omega), if_pos (by omega), if_pos (by omega)]
    by_cases h0 : rd (rd_T28 v x).f2 i < 0
    · rw [if_pos h0]
    · rw [if_neg h0]
      simp only [Bool.and_eq_false_iff, Bool.or_eq_false_iff, decide_eq_false_iff_not] at hp
      have h1 := hp.resolve_left (by omega)
      have e : wrap64 ((i : Int) - 1) = ((i - 1 : Nat) : Int) := by rw [w64 _ (by omega) (by omega)]; omega
      rw [if_pos (by omega), e, if_pos (by omega), if_pos (by omega), if_pos (by omega)]
  · exact Ev.step (fun k => by simp only [railplanref19_ValidVisits.l1]; rw [if_neg (by omega)]) (hn ha)
theorem rvalid_l0 (t : Int) (ht1 : 2 ≤ t) (ht : t ≤ 7200) (v : List SV) (hl : v.length ≤ 16) :
    Ev (fun k => railplanref19_ValidVisits.l0 k t v (v.length : Int) 0) (allF (fun i => okV t (rd_T28 v i)) v.length 0) := by
  rw [← Bool.and_true (allF _ _ _)]
  have ew : wrap64 (t - 1) = t - 1 := w64 _ (by omega) (by omega)
  refine loop_all (fun k i => railplanref19_ValidVisits.l0 k t v (v.length : Int) (i : Int)) v.length _ true ?_ ?_ v.length 0 (by omega) (fun _ => ?_)
  · intro i hi hp b hb
    obtain ⟨h1, h2, h3, h4, h5, h6⟩ := (okV_iff _ _).1 hp
    have hw := ws i (by omega)
    have hin := rvalid_l1 t v (v.length : Int) i hi h5 b (fun _ => by rw [hw]; exact hb)
    rw [okT_eq, h6, Bool.true_and] at hin
    have hstep : ∀ k, railplanref19_ValidVisits.l0 (k + 1) t v (v.length : Int) (i : Int) = railplanref19_ValidVisits.j2 k t v (i : Int) (v.length : Int) (i : Int) false := fun k => by
      simp only [railplanref19_ValidVisits.l0]; rw [if_pos (by omega), if_pos (by omega), if_pos (by omega), ew, in_f, decide_eq_true h1, decide_eq_true (show (rd_T28 v i).f0 ≤ t - 1 by omega)]; simp only [Option.bind_some, Bool.and_self, if_true]; rw [in_f, decide_eq_true h3, decide_eq_true h4]; simp only [Option.bind_some, Bool.and_self, if_true]; rw [decide_eq_false (show ¬ ((rd_T28 v i).f2.length : Int) > 8 by omega)]
    exact Ev.step hstep (Ev.step (fun k => by simp only [railplanref19_ValidVisits.j2]; rw [if_neg (by simp), if_pos (by omega), if_pos (by omega)]) hin)
  · intro i hi hp
    have hd : ∀ b, b = true → Ev (fun k => railplanref19_ValidVisits.j2 k t v (i : Int) (v.length : Int) (i : Int) b) false := fun b hb => Ev.step (fun k => by simp only [railplanref19_ValidVisits.j2]; rw [if_pos hb]) (Ev.now _)
    by_cases h1 : 0 ≤ (rd_T28 v i).f0 ∧ (rd_T28 v i).f0 ≤ t - 1
    · by_cases h2 : 1 ≤ (rd_T28 v i).f1 ∧ (rd_T28 v i).f1 ≤ t
      · have hstep : ∀ k, railplanref19_ValidVisits.l0 (k + 1) t v (v.length : Int) (i : Int) = railplanref19_ValidVisits.j2 k t v (i : Int) (v.length : Int) (i : Int) (decide (((rd_T28 v i).f2.length : Int) > 8)) := fun k => by
          simp only [railplanref19_ValidVisits.l0]; rw [if_pos (by omega), if_pos (by omega), if_pos (by omega), ew, in_f, decide_eq_true h1.1, decide_eq_true h1.2]; simp only [Option.bind_some, Bool.and_self, if_true]; rw [in_f, decide_eq_true h2.1, decide_eq_true h2.2]; simp only [Option.bind_some, Bool.and_self, if_true]
        by_cases h5 : ((rd_T28 v i).f2.length : Int) > 8
        · exact Ev.step hstep (hd _ (decide_eq_true h5))
        · have h6 : okT (rd_T28 v i).f2 = false := by
            cases h6 : okT (rd_T28 v i).f2 with
            | false => rfl
            | true => exact absurd ((okV_iff t (rd_T28 v i)).2 ⟨by omega, by omega, by omega, by omega, by omega, h6⟩) (by rw [hp]; simp)
          have hin := rvalid_l1 t v (v.length : Int) i hi (by omega) false (fun h => by rw [okT_eq, h6] at h; cases h)
          rw [okT_eq, h6, Bool.false_and] at hin
          exact Ev.step hstep (Ev.step (fun k => by simp only [railplanref19_ValidVisits.j2]; rw [if_neg (by simpa using h5), if_pos (by omega), if_pos (by omega)]) hin)
      · have e : (decide (1 ≤ (rd_T28 v i).f1) && decide ((rd_T28 v i).f1 ≤ t)) = false := by simpa using h2
        exact Ev.step (fun k => by simp only [railplanref19_ValidVisits.l0]; rw [if_pos (by omega), if_pos (by omega), if_pos (by omega), ew, in_f, decide_eq_true h1.1, decide_eq_true h1.2]; simp only [Option.bind_some, Bool.and_self, if_true]; rw [in_f, e]; simp only [Option.bind_some, Bool.false_eq_true, if_false]) (hd true rfl)
    · have e : (decide (0 ≤ (rd_T28 v i).f0) && decide ((rd_T28 v i).f0 ≤ t - 1)) = false := by simpa using h1
      exact Ev.step (fun k => by simp only [railplanref19_ValidVisits.l0]; rw [if_pos (by omega), if_pos (by omega), if_pos (by omega), ew, in_f, e]; simp only [Option.bind_some, Bool.false_eq_true, if_false]) (hd true rfl)
  · exact Ev.step (fun k => by simp only [railplanref19_ValidVisits.l0]; rw [if_neg (by omega)]) (Ev.now _)
theorem rvalid_ev (t : Int) (v : List SV) : Ev (fun k => railplanref19_ValidVisits.f k t v) (vldB t v) := by
  unfold vldB
  have hd : ∀ b, b = true → Ev (fun k => railplanref19_ValidVisits.j0 k t v b) false := fun b hb => Ev.step (fun k => by simp only [railplanref19_ValidVisits.j0]; rw [if_pos hb]) (Ev.now _)
  by_cases h1 : 2 ≤ t ∧ t ≤ 7200
  · rw [decide_eq_true h1.1, decide_eq_true h1.2, Bool.true_and, Bool.true_and]
    have hc : ∀ k, railplanref19_ValidVisits.f k t v = railplanref19_ValidVisits.j0 k t v (decide ((v.length : Int) > 16)) := fun k => by
      unfold railplanref19_ValidVisits.f; rw [in_f, decide_eq_true h1.1, decide_eq_true h1.2]; simp only [Option.bind_some, Bool.and_self, if_true]
    by_cases h3 : (v.length : Int) > 16
    · simp only [decide_eq_false (show ¬ v.length ≤ 16 by omega), Bool.false_and]
      exact Ev.congr hc (hd _ (decide_eq_true h3))
    · rw [decide_eq_true (show v.length ≤ 16 by omega), Bool.true_and]
      exact Ev.congr hc (Ev.step (fun k => by simp only [railplanref19_ValidVisits.j0]; rw [if_neg (by simpa using h3)]) (rvalid_l0 t h1.1 h1.2 v (by omega)))
  · have e : (decide (2 ≤ t) && decide (t ≤ 7200)) = false := by simpa using h1
    rw [e, Bool.false_and, Bool.false_and]
    exact Ev.congr (fun k => by unfold railplanref19_ValidVisits.f; rw [in_f, e]; simp only [Option.bind_some, Bool.false_eq_true, if_false]) (hd true rfl)
/-! #### two visits -/
def ovB (t : Int) (a b : SV) : Bool := decide ((b.f0 - a.f0) % t < a.f1) || decide ((a.f0 - b.f0) % t < b.f1)
theorem overlap_f (t : Int) (a b : SV) (ht : 2 ≤ t) (ht2 : t ≤ 7200) (ha : okV t a = true) (hb : okV t b = true) : platform_overlap.f t a.f0 a.f1 a.f2 b.f0 b.f1 b.f2 = some (ovB t a b) := by
  obtain ⟨a1, a2, _⟩ := (okV_iff _ _).1 ha
  obtain ⟨b1, b2, _⟩ := (okV_iff _ _).1 hb
  unfold platform_overlap.f ovB
  rw [w64 _ (by omega) (by omega), w64 _ (by omega) (by omega), amod _ t (by omega) (by omega) (by omega) (by omega), amod _ t (by omega) (by omega) (by omega) (by omega)]
  simp only [Option.bind_some]
  by_cases h : (b.f0 - a.f0) % t < a.f1
  · rw [if_pos h, decide_eq_true h, Bool.true_or]
  · rw [if_neg h, decide_eq_false h, Bool.false_or]
theorem vld_pair (t : Int) (a b : SV) : vldB t [a, b] = (decide (2 ≤ t) && decide (t ≤ 7200) && okV t a && okV t b) := by
  unfold vldB
  rw [show ([a, b] : List SV).length = 2 from rfl, allF_step _ _ _ (by omega), allF_step _ _ _ (by omega), allF_end _ _ _ (by omega)]
  simp [rd_T28, Bool.and_assoc]
def OvB (t : Int) (a b : SV) : Bool := vldB t [a, b] && ovB t a b
theorem Overlap_ev (t : Int) (a b : SV) : Ev (fun k => platform_Overlap.f k t a.f0 a.f1 a.f2 b.f0 b.f1 b.f2) (OvB t a b) := by
  unfold platform_Overlap.f OvB
  refine Ev.bind (valid_ev t _) ?_
  show Ev _ (vldB t [a, b] && ovB t a b)
  cases h : vldB t [a, b] with
  | false => rw [Bool.false_and]; exact Ev.congr (fun k => by rw [if_neg (by simp)]) (Ev.now _)
  | true =>
    rw [vld_pair] at h
    simp only [Bool.and_eq_true, decide_eq_true_eq] at h
    obtain ⟨⟨⟨h1, h2⟩, h3⟩, h4⟩ := h
    exact Ev.congr (fun k => by rw [if_pos rfl, overlap_f t a b h1 h2 h3 h4]; rfl) (Ev.now _)
theorem rOverlap_ev (t : Int) (a b : SV) : Ev (fun k => railplanref19_Overlap.f k t a.f0 a.f1 a.f2 b.f0 b.f1 b.f2) (OvB t a b) := by
  unfold railplanref19_Overlap.f OvB
  refine Ev.bind (rvalid_ev t _) ?_
  show Ev _ (vldB t [a, b] && ovB t a b)
  cases h : vldB t [a, b] with
  | false => rw [Bool.false_and]; exact Ev.congr (fun k => by rw [if_neg (by simp)]) (Ev.now _)
  | true =>
    rw [vld_pair] at h
    simp only [Bool.and_eq_true, decide_eq_true_eq] at h
    obtain ⟨⟨⟨h1, h2⟩, h3⟩, h4⟩ := h
    obtain ⟨a1, a2, _⟩ := (okV_iff _ _).1 h3
    obtain ⟨b1, b2, _⟩ := (okV_iff _ _).1 h4
    refine Ev.congr (f := fun _ => some (true && ovB t a b)) (fun k => ?_) (Ev.now _)
    rw [if_pos rfl, w64 _ (by omega) (by omega), w64 _ (by omega) (by omega), rmod _ t (by omega) (by omega) (by omega) (by omega), rmod _ t (by omega) (by omega) (by omega) (by omega)]
    simp only [Option.bind_some, Bool.true_and]
    unfold ovB
    by_cases h : (b.f0 - a.f0) % t < a.f1
    · rw [if_pos h, decide_eq_true h, Bool.true_or]
    · rw [if_neg h, decide_eq_false h, Bool.false_or]
/-! #### a track fits; a proper choice -/
def fitsB (t : Int) (v : List SV) (ch : List Int) (c : Int) : Bool := allF (fun k => !(decide (rd ch k = c) && ovB t (rd_T28 v k) (rd_T28 v ch.length))) ch.length 0
theorem fits_ev (t : Int) (v : List SV) (ch : List Int) (c : Int) (hv : vldB t v = true) (hl : ch.length < v.length) : Ev (fun k => platform_fits.f k t v ch c) (fitsB t v ch c) := by
  obtain ⟨t1, t2, hv16, hok⟩ := (vldB_iff _ _).1 hv
  unfold platform_fits.f fitsB
  rw [← Bool.and_true (allF _ _ _)]
  refine loop_all (fun k i => platform_fits.l0 k t v c (ch.length : Int) ch (ch.length : Int) (i : Int)) ch.length _ true ?_ ?_ ch.length 0 (by omega) (fun _ => ?_)
  · intro i hi hp b hb
    refine Ev.step (f := fun k => platform_fits.l0 k t v c (ch.length : Int) ch (ch.length : Int) ((i + 1 : Nat) : Int)) (fun k => ?_) hb
    simp only [platform_fits.l0]
    rw [if_pos (by omega), if_pos (by omega), if_pos (by omega), ws i (by omega)]
    by_cases hc : rd ch i = c
    · rw [if_pos hc, if_pos (by omega), if_pos (by omega), if_pos (by omega), overlap_f t _ _ t1 t2 (hok i (by omega)) (hok ch.length hl)]
      rw [decide_eq_true hc, Bool.true_and] at hp
      simp only [Option.bind_some]
      rw [if_neg (by simpa using hp)]
    · rw [if_neg hc]
  · intro i hi hp
    simp only [Bool.not_eq_false', Bool.and_eq_true, decide_eq_true_eq] at hp
    refine Ev.step (f := fun _ => some false) (fun k => ?_) (Ev.now _)
    simp only [platform_fits.l0]
    rw [if_pos (by omega), if_pos (by omega), if_pos (by omega), if_pos hp.1, if_pos (by omega), if_pos (by omega), if_pos (by omega), overlap_f t _ _ t1 t2 (hok i (by omega)) (hok ch.length hl)]
    simp only [Option.bind_some]
    rw [if_pos hp.2]
  · exact Ev.step (fun k => by simp only [platform_fits.l0]; rw [if_neg (by omega)]) (Ev.now _)
theorem index_ev (l : List Int) (x : Int) (hl : l.length ≤ 1152921504606846976) : ∃ j : Int, Ev (fun k => slices_Index_int_int.f k l x) j ∧ (0 ≤ j ↔ x ∈ l) ∧ (0 ≤ j → j < l.length ∧ rd l j = x ∧ ∀ i : Nat, (i : Int) < j → rd l i ≠ x) ∧ -1 ≤ j := by
  unfold slices_Index_int_int.f
  have main : ∀ d i : Nat, i + d = l.length → (∀ j : Nat, j < i → rd l j ≠ x) → ∃ j : Int, Ev (fun k => slices_Index_int_int.l0 k l x (l.length : Int) (i : Int)) j ∧ (0 ≤ j ↔ x ∈ l) ∧ (0 ≤ j → j < l.length ∧ rd l j = x ∧ ∀ i : Nat, (i : Int) < j → rd l i ≠ x) ∧ -1 ≤ j := by
    intro d
    induction d with
    | zero =>
      intro i hi hb
      refine ⟨-1, Ev.step (fun k => by simp only [slices_Index_int_int.l0]; rw [if_neg (by omega)]) (Ev.now _), ⟨by omega, fun hm => ?_⟩, by omega, by omega⟩
      obtain ⟨j, hj, e⟩ := List.getElem_of_mem hm
      refine absurd ?_ (hb j (by omega))
      unfold rd; rw [Int.toNat_natCast, List.getD_eq_getElem?_getD, List.getElem?_eq_getElem hj, e]; rfl
    | succ d ih =>
      intro i hi hb
      by_cases h : x = rd l i
      · refine ⟨i, Ev.step (fun k => by simp only [slices_Index_int_int.l0]; rw [if_pos (by omega), if_pos (by omega), if_pos (by omega), if_pos h]) (Ev.now _), ⟨fun _ => ?_, fun _ => by omega⟩, fun _ => ⟨by omega, h.symm, fun j hj => hb j (by omega)⟩, by omega⟩
        rw [h]
        unfold rd; rw [Int.toNat_natCast, List.getD_eq_getElem?_getD, List.getElem?_eq_getElem (show i < l.length by omega)]
        exact List.getElem_mem _
      · obtain ⟨j, e, r⟩ := ih (i + 1) (by omega) (fun j hj => by
          by_cases hji : j = i
          · rw [hji]; exact fun e => h e.symm
          · exact hb j (by omega))
        exact ⟨j, Ev.step (f := fun k => slices_Index_int_int.l0 k l x (l.length : Int) ((i + 1 : Nat) : Int)) (fun k => by simp only [slices_Index_int_int.l0]; rw [if_pos (by omega), if_pos (by omega), if_pos (by omega), if_neg h, ws i (by omega)]) e, r⟩
  exact main l.length 0 (by omega) (fun j hj => absurd hj (by omega))
theorem contains_ev (l : List Int) (x : Int) (hl : l.length ≤ 1152921504606846976) : Ev (fun k => slices_Contains_int_int.f k l x) (l.contains x) := by
  obtain ⟨j, e, h, _⟩ := index_ev l x hl
  unfold slices_Contains_int_int.f
  refine Ev.bind e ?_
  have : decide (j ≥ 0) = l.contains x := by
    rw [Bool.eq_iff_iff, decide_eq_true_eq, List.contains_iff_mem]
    exact h
  exact Ev.congr (fun k => by rw [this]) (Ev.now _)
theorem member_ev (l : List Int) (x : Int) (hl : l.length ≤ 1152921504606846976) : Ev (fun k => railplanref19_member.f k l x) (l.contains x) := by
  unfold railplanref19_member.f
  have main : ∀ d i : Nat, i + d = l.length → Ev (fun k => railplanref19_member.l0 k l x (l.length : Int) (i : Int)) ((l.drop i).contains x) := by
    intro d
    induction d with
    | zero =>
      intro i hi
      rw [List.drop_eq_nil_of_le (by omega), List.contains_nil]
      exact Ev.step (fun k => by simp only [railplanref19_member.l0]; rw [if_neg (by omega)]) (Ev.now _)
    | succ d ih =>
      intro i hi
      have hg : rd l i = l[i]'(by omega) := by unfold rd; rw [Int.toNat_natCast, List.getD_eq_getElem?_getD, List.getElem?_eq_getElem (show i < l.length by omega)]; rfl
      rw [List.drop_eq_getElem_cons (show i < l.length by omega), List.contains_cons, ← hg]
      by_cases h : rd l i = x
      · rw [h, beq_self_eq_true, Bool.true_or]
        exact Ev.step (fun k => by simp only [railplanref19_member.l0]; rw [if_pos (by omega), if_pos (by omega), if_pos (by omega), if_pos h]) (Ev.now _)
      · rw [show (x == rd l i) = false from by rw [beq_eq_false_iff_ne]; exact fun e => h e.symm, Bool.false_or]
        exact Ev.step (f := fun k => railplanref19_member.l0 k l x (l.length : Int) ((i + 1 : Nat) : Int)) (fun k => by simp only [railplanref19_member.l0]; rw [if_pos (by omega), if_pos (by omega), if_pos (by omega), if_neg h, ws i (by omega)]) (ih (i + 1) (by omega))
  exact main l.length 0 (by omega)
def oneB (t : Int) (v : List SV) (ch : List Int) (i : Nat) : Bool := (rd_T28 v i).f2.contains (rd ch i) && fitsB t v (ch.take i) (rd ch i)
def properB (t : Int) (v : List SV) (ch : List Int) : Bool := vldB t v && decide (ch.length = v.length) && allF (oneB t v ch) ch.length 0
theorem proper_ev (t : Int) (v : List SV) (ch : List Int) : Ev (fun k => platform_Proper.f k t v ch) (properB t v ch) := by
  unfold platform_Proper.f properB
  refine Ev.bind (valid_ev t v) ?_
  have hd : ∀ b, b = true → Ev (fun k => platform_Proper.j0 k t v ch b) false := fun b hb => Ev.step (fun k => by simp only [platform_Proper.j0]; rw [if_pos hb]) (Ev.now _)
  cases hv : vldB t v with
  | false => simp only [Bool.false_and]; exact Ev.congr (fun k => by rw [if_neg (by simp)]) (hd true rfl)
  | true =>
    simp only [Bool.true_and]
    refine Ev.congr (fun k => by rw [if_pos trivial]) ?_
    by_cases hl : ch.length = v.length
    · rw [decide_eq_true hl, Bool.true_and]
      have hne : ((ch.length : Int) != (v.length : Int)) = false := by rw [hl]; simp
      rw [hne]
      obtain ⟨t1, t2, hv16, hok⟩ := (vldB_iff _ _).1 hv
      refine Ev.step (fun k => by simp only [platform_Proper.j0]; rw [if_neg (by simp)]) ?_
      rw [← Bool.and_true (allF _ _ _)]
      refine loop_all (fun k i => platform_Proper.l0 k t v ch ch (ch.length : Int) (i : Int)) ch.length _ true ?_ ?_ ch.length 0 (by omega) (fun _ => ?_)
      · intro i hi hp b hb
        have h5 := ((okV_iff _ _).1 (hok i (by omega))).2.2.2.2.1
        unfold oneB at hp
        rw [Bool.and_eq_true] at hp
        have hlt : (ch.take i).length = i := by rw [List.length_take]; omega
        refine Ev.step (fun k => by simp only [platform_Proper.l0]; rw [if_pos (by omega), if_pos (by omega), if_pos (by omega), if_pos (by omega)]) (Ev.bind (contains_ev _ _ (by omega)) (Ev.congr (fun k => by rw [hp.1, if_pos rfl, if_pos (by omega), Int.toNat_natCast]) (Ev.bind (fits_ev t v (ch.take i) (rd ch i) hv (by omega)) (Ev.congr (fun k => by rw [hp.2, if_pos rfl, ws i (by omega)]) hb))))
      · intro i hi hp
        have h5 := ((okV_iff _ _).1 (hok i (by omega))).2.2.2.2.1
        unfold oneB at hp
        have hlt : (ch.take i).length = i := by rw [List.length_take]; omega
        refine Ev.step (fun k => by simp only [platform_Proper.l0]; rw [if_pos (by omega), if_pos (by omega), if_pos (by omega), if_pos (by omega)]) (Ev.bind (contains_ev _ _ (by omega)) ?_)
        cases hc : (rd_T28 v i).f2.contains (rd ch i) with
        | false => exact Ev.congr (fun k => by rw [if_neg (by simp)]) (Ev.now _)
        | true =>
          rw [hc, Bool.true_and] at hp
          exact Ev.congr (fun k => by rw [if_pos rfl, if_pos (by omega), Int.toNat_natCast]) (Ev.bind (fits_ev t v (ch.take i) (rd ch i) hv (by omega)) (Ev.congr (fun k => by rw [hp, if_neg (by simp)]) (Ev.now _)))
      · exact Ev.step (fun k => by simp only [platform_Proper.l0]; rw [if_neg (by omega)]) (Ev.now _)
    · rw [decide_eq_false hl, Bool.false_and]
      exact hd _ (by simpa using (show (ch.length : Int) ≠ (v.length : Int) by omega))
theorem rd_take (l : List Int) (i j : Nat) (h : j < i) : rd (l.take i) j = rd l j := by
  unfold rd; rw [Int.toNat_natCast, List.getD_eq_getElem?_getD, List.getD_eq_getElem?_getD, List.getElem?_take_of_lt h]
theorem rproper_ev (t : Int) (v : List SV) (ch : List Int) : Ev (fun k => railplanref19_Proper.f k t v ch) (properB t v ch) := by
  unfold railplanref19_Proper.f properB
  refine Ev.bind (rvalid_ev t v) ?_
  have hd : ∀ b, b = true → Ev (fun k => railplanref19_Proper.j0 k t v ch b) false := fun b hb => Ev.step (fun k => by simp only [railplanref19_Proper.j0]; rw [if_pos hb]) (Ev.now _)
  cases hv : vldB t v with
  | false => simp only [Bool.false_and]; exact Ev.congr (fun k => by rw [if_neg (by simp)]) (hd true rfl)
  | true =>
    simp only [Bool.true_and]
    refine Ev.congr (fun k => by rw [if_pos trivial]) ?_
    by_cases hl : ch.length = v.length
    · rw [decide_eq_true hl, Bool.true_and]
      have hne : ((ch.length : Int) != (v.length : Int)) = false := by rw [hl]; simp
      rw [hne]
      obtain ⟨t1, t2, hv16, hok⟩ := (vldB_iff _ _).1 hv
      refine Ev.step (fun k => by simp only [railplanref19_Proper.j0]; rw [if_neg (by simp)]) ?_
      rw [← Bool.and_true (allF _ _ _)]
      have hin : ∀ i : Nat, i < ch.length → ∀ r, (fitsB t v (ch.take i) (rd ch i) = true → Ev (fun k => railplanref19_Proper.l0 k t v ch (v.length : Int) ((i + 1 : Nat) : Int)) r) → Ev (fun k => railplanref19_Proper.l1 k t v ch (i : Int) 0 (v.length : Int) (i : Int)) (fitsB t v (ch.take i) (rd ch i) && r) := by
        intro i hi r hr
        have hlt : (ch.take i).length = i := by rw [List.length_take]; omega
        have hf : fitsB t v (ch.take i) (rd ch i) = allF (fun k => !(decide (rd ch k = rd ch i) && ovB t (rd_T28 v k) (rd_T28 v i))) i 0 := by
          unfold fitsB
          rw [hlt, Bool.eq_iff_iff, allF_iff, allF_iff]
          constructor
          · intro h j h0 h1; have := h j h0 h1; rwa [rd_take _ _ _ h1] at this
          · intro h j h0 h1; rw [rd_take _ _ _ h1]; exact h j h0 h1
        rw [hf] at hr ⊢
        have hpair : ∀ j : Nat, j < i → Ev (fun k => railplanref19_Overlap.f k t (rd_T28 v j).f0 (rd_T28 v j).f1 (rd_T28 v j).f2 (rd_T28 v i).f0 (rd_T28 v i).f1 (rd_T28 v i).f2) (ovB t (rd_T28 v j) (rd_T28 v i)) := by
          intro j hj
          have h := rOverlap_ev t (rd_T28 v j) (rd_T28 v i)
          unfold OvB at h
          rw [vld_pair, decide_eq_true t1, decide_eq_true t2, hok j (by omega), hok i (by omega)] at h
          simpa using h
        refine loop_all (fun k j => railplanref19_Proper.l1 k t v ch (i : Int) (j : Int) (v.length : Int) (i : Int)) i _ r ?_ ?_ i 0 (by omega) (fun ha => ?_)
        · intro j hj hp b hb
          by_cases hc : rd ch j = rd ch i
          · rw [decide_eq_true hc, Bool.true_and] at hp
            exact Ev.step (fun k => by simp only [railplanref19_Proper.l1]; rw [if_pos (by omega), if_pos (by omega), if_pos (by omega), if_pos (by omega), if_pos (by omega), if_pos hc, if_pos (by omega), if_pos (by omega)]) (Ev.bind (hpair j hj) (Ev.congr (fun k => by rw [if_neg (by simpa using hp), ws j (by omega)]) hb))
          · exact Ev.step (f := fun k => railplanref19_Proper.l1 k t v ch (i : Int) ((j + 1 : Nat) : Int) (v.length : Int) (i : Int)) (fun k => by simp only [railplanref19_Proper.l1]; rw [if_pos (by omega), if_pos (by omega), if_pos (by omega), if_pos (by omega), if_pos (by omega), if_neg hc, ws j (by omega)]) hb
        · intro j hj hp
          simp only [Bool.not_eq_false', Bool.and_eq_true, decide_eq_true_eq] at hp
          exact Ev.step (fun k => by simp only [railplanref19_Proper.l1]; rw [if_pos (by omega), if_pos (by omega), if_pos (by omega), if_pos (by omega), if_pos (by omega), if_pos hp.1, if_pos (by omega), if_pos (by omega)]) (Ev.bind (hpair j hj) (Ev.congr (fun k => by rw [if_pos hp.2]) (Ev.now _)))
        · exact Ev.step (f := fun k => railplanref19_Proper.l0 k t v ch (v.length : Int) ((i + 1 : Nat) : Int)) (fun k => by simp only [railplanref19_Proper.l1]; rw [if_neg (by omega), ws i (by omega)]) (hr ha)
      refine loop_all (fun k i => railplanref19_Proper.l0 k t v ch (v.length : Int) (i : Int)) ch.length _ true ?_ ?_ ch.length 0 (by omega) (fun _ => ?_)
      · intro i hi hp b hb
        have h5 := ((okV_iff _ _).1 (hok i (by omega))).2.2.2.2.1
        unfold oneB at hp
        rw [Bool.and_eq_true] at hp
        have h := hin i hi b (fun _ => hb)
        rw [hp.2, Bool.true_and] at h
        exact Ev.step (fun k => by simp only [railplanref19_Proper.l0]; rw [if_pos (by omega), if_pos (by omega), if_pos (by omega), if_pos (by omega)]) (Ev.bind (member_ev _ _ (by omega)) (Ev.congr (fun k => by rw [hp.1, if_pos rfl]) h))
      · intro i hi hp
        have h5 := ((okV_iff _ _).1 (hok i (by omega))).2.2.2.2.1
        unfold oneB at hp
        refine Ev.step (fun k => by simp only [railplanref19_Proper.l0]; rw [if_pos (by omega), if_pos (by omega), if_pos (by omega), if_pos (by omega)]) (Ev.bind (member_ev _ _ (by omega)) ?_)
        cases hc : (rd_T28 v i).f2.contains (rd ch i) with
        | false => exact Ev.congr (fun k => by rw [if_neg (by simp)]) (Ev.now _)
        | true =>
          rw [hc, Bool.true_and] at hp
          have h := hin i hi false (fun h => by rw [hp] at h; cases h)
          rw [hp, Bool.false_and] at h
          exact Ev.congr (fun k => by rw [if_pos rfl]) h
      · exact Ev.step (fun k => by simp only [railplanref19_Proper.l0]; rw [if_neg (by omega)]) (Ev.now _)
    · rw [decide_eq_false hl, Bool.false_and]
      exact hd _ (by simpa using (show (ch.length : Int) ≠ (v.length : Int) by omega))
end Go.Proofs.Ytdgdjbehddeepaa.Pure
