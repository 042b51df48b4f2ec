/- What calls of the Go functions below do, each under the premises that its theorem states. Laid by a program of the claimant, which drives the kit's print; some texts are written by hand. -/
import Derived.Test.YtapnkefhihgbbaaPAllx0
import Derived.Test.YtapnkefhihgbbaaPAllxf25
namespace Go.Proofs.Ytapnkefhihgbbaa.PAll
open Go.RowKit Go.Proofs.YtapnkefhihgbbaaW.PrintWords Go.Proofs.YtapnkefhihgbbaaW.PrintLast Go.Proofs.YtapnkefhihgbbaaW.PrintMore
attribute [local go_sem] max2_int min2_int max_two min_two max_three min_three max_four min_four   -- for this text's walks alone
set_option linter.unusedVariables false
set_option linter.unusedSimpArgs false

/-! ### network_Check: function 12 -/
def act_ix (p : S31 → Bool) (l : List S31) : Int := if l.any p then (l.findIdx p : Int) else -1
theorem act_ix_hit (p : S31 → Bool) (l : List S31) (k : Nat) (hk : k < l.length) (h : p (rd_T31 l (k : Int)) = true) (hb : ∀ j : Nat, j < k → p (rd_T31 l (j : Int)) = false) : act_ix p l = k := by
  have hg : ∀ j : Nat, (hj : j < l.length) → rd_T31 l (j : Int) = l[j] := fun j hj => by
    unfold rd_T31; rw [Int.toNat_natCast, List.getD_eq_getElem?_getD, List.getElem?_eq_getElem hj]; rfl
  have hany : l.any p = true := List.any_eq_true.mpr ⟨l[k], List.getElem_mem hk, by rw [← hg k hk]; exact h⟩
  have hf : l.findIdx p = k := by
    rw [List.findIdx_eq hk]
    exact ⟨by rw [← hg k hk]; exact h, fun j hj => by rw [← hg j (by omega)]; exact hb j hj⟩
  unfold act_ix
  rw [if_pos hany, hf]
theorem act_ix_miss (p : S31 → Bool) (l : List S31) (hb : ∀ j : Nat, j < l.length → p (rd_T31 l (j : Int)) = false) : act_ix p l = -1 := by
  have hg : ∀ j : Nat, (hj : j < l.length) → rd_T31 l (j : Int) = l[j] := fun j hj => by
    unfold rd_T31; rw [Int.toNat_natCast, List.getD_eq_getElem?_getD, List.getElem?_eq_getElem hj]; rfl
  have hany : l.any p = false := by
    rw [List.any_eq_false]
    intro x hx
    obtain ⟨j, hj, rfl⟩ := List.getElem_of_mem hx
    rw [← hg j hj, hb j hj]; simp
  unfold act_ix
  rw [hany]; rfl
theorem act_ix_any (p : S31 → Bool) (l : List S31) : decide (0 ≤ act_ix p l) = l.any p := by
  unfold act_ix
  cases h : l.any p
  · simp
  · simp
set_option maxHeartbeats 4000000 in
set_option maxRecDepth 100000 in
theorem act_IndexFunc (p : S31 → Bool) (g : Nat) (lb : Array Value) (A : Option Addr) (c : Nat) (l : List S31) (w0 w : World) (hB : Below w0.heap.size w0 w) (eg : ∀ args w, (callFunc g args).run Try.prog w = .ok (.enter g args) w)
    (hp : ∀ (x : S31) (W : World), x ∈ l → Below w0.heap.size w0 W → Calls Try.prog g (#[.agg #[.int .i64 x.f0, .int .i64 x.f1, .int .i64 x.f2, .int .i64 x.f3, .int .i64 x.f4, .int .i64 x.f5]] ++ lb) W fun e w' => e = .returned (.bool (p x)) ∧ Below w0.heap.size w0 w') (hr : Kd.C k31 w0 A l.length l) :
    Calls Try.prog 38 #[.slice A l.length c, .func (.func g) #[] lb] w fun e w' => e = .returned (.int .i64 (act_ix p l)) ∧ Below w0.heap.size w0 w' := by
  have hm : l.length ≤ 9223372036854775807 := hr.2.1
  have hu := Try.underlying31
  have HB := Aside0.mk hB
  have HR := Aside0.mk hr
  clear hB hr
  go_enter Try.func38, Try.ntmps38
  go_wp2
  go_loopg [5, 8] l.length (fun gg _ s8 wr => ∃ kk : Nat, kk ≤ l.length ∧ l.length - kk ≤ gg ∧ s8 = .int .i64 kk ∧ Aside (Below w0.heap.size w0 wr) ∧ Aside (∀ j : Nat, j < kk → p (rd_T31 l (j : Int)) = false))
  case atStart => exact ⟨0, Nat.zero_le _, by omega, rfl, HB.out, fun j hj => absurd hj (Nat.not_lt_zero _)⟩
  case round =>
    obtain ⟨kk, hkk, hg, rfl, BW, AF⟩ := hrel
    by_cases hlt : kk < l.length
    · have hltz : (kk : Int) < (l.length : Int) := by omega
      have h0z : (0 : Int) ≤ (kk : Int) := by omega
      obtain ⟨ad, e, hx0, hx1, hx2, hx3, hx4, hx5⟩ := at_T31 (Kd.C_below HR.out BW.out) (kk : Int) h0z hltz
      rw [Int.toNat_natCast] at hx0 hx1 hx2 hx3 hx4 hx5
      cases e
      have hmem : rd_T31 l (kk : Int) ∈ l := by
        unfold rd_T31; rw [Int.toNat_natCast, List.getD_eq_getElem?_getD, List.getElem?_eq_getElem hlt]; exact List.getElem_mem hlt
      have hcall := hp (rd_T31 l (kk : Int)) wr hmem BW.out
      clear hmem
      generalize hy : rd_T31 l (kk : Int) = y at hcall hx0 hx1 hx2 hx3 hx4 hx5
      have B := Aside0.mk hy
      clear hy
      cases hq : p y with
      | true =>
        rw [hq] at hcall
        go_wp2_with fail
        refine hcall.mono ?_; rintro e w' ⟨rfl, hb'⟩
        go_wp2
        go_ret
        refine ⟨?_, hb'⟩
        rw [act_ix_hit p l kk hlt (by rw [B.out]; exact hq) AF.out]
        rfl
      | false =>
        rw [hq] at hcall
        go_wp2_with fail
        refine hcall.mono ?_; rintro e w' ⟨rfl, hb'⟩
        go_wp2
        go_roundg (l.length - (kk + 1))
        case measure => omega
        case rel =>
          refine ⟨kk + 1, by omega, by omega, by go_num, hb', (show Aside _ from fun j hj => ?_)⟩
          by_cases e : j = kk
          · subst e
            rw [B.out]; exact hq
          · exact AF.out j (by omega)
    · have hltz : ¬ (kk : Int) < (l.length : Int) := by omega
      have : kk = l.length := by omega
      subst this
      go_wp2
      go_ret
      refine ⟨?_, BW.out⟩
      rw [act_ix_miss p l AF.out]
      rfl
set_option maxHeartbeats 4000000 in
set_option maxRecDepth 100000 in
theorem act_ContainsFunc (p : S31 → Bool) (g : Nat) (lb : Array Value) (A : Option Addr) (c : Nat) (l : List S31) (w0 w : World) (hB : Below w0.heap.size w0 w) (eg : ∀ args w, (callFunc g args).run Try.prog w = .ok (.enter g args) w)
    (hp : ∀ (x : S31) (W : World), x ∈ l → Below w0.heap.size w0 W → Calls Try.prog g (#[.agg #[.int .i64 x.f0, .int .i64 x.f1, .int .i64 x.f2, .int .i64 x.f3, .int .i64 x.f4, .int .i64 x.f5]] ++ lb) W fun e w' => e = .returned (.bool (p x)) ∧ Below w0.heap.size w0 w') (hr : Kd.C k31 w0 A l.length l) :
    Calls Try.prog 26 #[.slice A l.length c, .func (.func g) #[] lb] w fun e w' => e = .returned (.bool (l.any p)) ∧ Below w0.heap.size w0 w' := by
  have hany := Aside0.mk (act_ix_any p l)
  go_enter Try.func26, Try.ntmps26
  go_wp2_with (go_at_call 38; refine (act_IndexFunc p g lb A c l w0 _ hB eg hp hr).mono ?_; rintro e w' ⟨rfl, hb'⟩)
  go_ret
  exact ⟨by rw [← hany.out]; rfl, hb'⟩

def int_ix (p : Int → Bool) (l : List Int) : Int := if l.any p then (l.findIdx p : Int) else -1
theorem int_ix_hit (p : Int → Bool) (l : List Int) (k : Nat) (hk : k < l.length) (h : p (rd l (k : Int)) = true) (hb : ∀ j : Nat, j < k → p (rd l (j : Int)) = false) : int_ix p l = k := by
  have hg : ∀ j : Nat, (hj : j < l.length) → rd l (j : Int) = l[j] := fun j hj => by
    unfold rd; rw [Int.toNat_natCast, List.getD_eq_getElem?_getD, List.getElem?_eq_getElem hj]; rfl
  have hany : l.any p = true := List.any_eq_true.mpr ⟨l[k], List.getElem_mem hk, by rw [← hg k hk]; exact h⟩
  have hf : l.findIdx p = k := by
    rw [List.findIdx_eq hk]
    exact ⟨by rw [← hg k hk]; exact h, fun j hj => by rw [← hg j (by omega)]; exact hb j hj⟩
  unfold int_ix
  rw [if_pos hany, hf]
theorem int_ix_miss (p : Int → Bool) (l : List Int) (hb : ∀ j : Nat, j < l.length → p (rd l (j : Int)) = false) : int_ix p l = -1 := by
  have hg : ∀ j : Nat, (hj : j < l.length) → rd l (j : Int) = l[j] := fun j hj => by
    unfold rd; rw [Int.toNat_natCast, List.getD_eq_getElem?_getD, List.getElem?_eq_getElem hj]; rfl
  have hany : l.any p = false := by
    rw [List.any_eq_false]
    intro x hx
    obtain ⟨j, hj, rfl⟩ := List.getElem_of_mem hx
    rw [← hg j hj, hb j hj]; simp
  unfold int_ix
  rw [hany]; rfl
theorem int_ix_any (p : Int → Bool) (l : List Int) : decide (0 ≤ int_ix p l) = l.any p := by
  unfold int_ix
  cases h : l.any p
  · simp
  · simp
set_option maxHeartbeats 4000000 in
set_option maxRecDepth 100000 in
theorem int_IndexFunc (p : Int → Bool) (g : Nat) (lb : Array Value) (A : Option Addr) (c : Nat) (l : List Int) (w0 w : World) (hB : Below w0.heap.size w0 w) (eg : ∀ args w, (callFunc g args).run Try.prog w = .ok (.enter g args) w)
    (hp : ∀ (x : Int) (W : World), x ∈ l → Below w0.heap.size w0 W → Calls Try.prog g (#[.int .i64 x] ++ lb) W fun e w' => e = .returned (.bool (p x)) ∧ Below w0.heap.size w0 w') (hr : Kd.C (Kd.int .i64) w0 A l.length l) :
    Calls Try.prog 44 #[.slice A l.length c, .func (.func g) #[] lb] w fun e w' => e = .returned (.int .i64 (int_ix p l)) ∧ Below w0.heap.size w0 w' := by
  have hm : l.length ≤ 9223372036854775807 := hr.2.1
  have HB := Aside0.mk hB
  have HR := Aside0.mk hr
  clear hB hr
  go_enter Try.func44, Try.ntmps44
  go_wp2
  go_loopg [5, 8] l.length (fun gg _ s8 wr => ∃ kk : Nat, kk ≤ l.length ∧ l.length - kk ≤ gg ∧ s8 = .int .i64 kk ∧ Aside (Below w0.heap.size w0 wr) ∧ Aside (∀ j : Nat, j < kk → p (rd l (j : Int)) = false))
  case atStart => exact ⟨0, Nat.zero_le _, by omega, rfl, HB.out, fun j hj => absurd hj (Nat.not_lt_zero _)⟩
  case round =>
    obtain ⟨kk, hkk, hg, rfl, BW, AF⟩ := hrel
    by_cases hlt : kk < l.length
    · have hltz : (kk : Int) < (l.length : Int) := by omega
      have h0z : (0 : Int) ≤ (kk : Int) := by omega
      obtain ⟨ad, e, hx0⟩ := Kd.at_int (Kd.C_below HR.out BW.out) (kk : Int) h0z hltz
      rw [Int.toNat_natCast] at hx0
      cases e
      have hmem : rd l (kk : Int) ∈ l := by
        unfold rd; rw [Int.toNat_natCast, List.getD_eq_getElem?_getD, List.getElem?_eq_getElem hlt]; exact List.getElem_mem hlt
      have hcall := hp (rd l (kk : Int)) wr hmem BW.out
      clear hmem
      generalize hy : rd l (kk : Int) = y at hcall hx0
      have B := Aside0.mk hy
      clear hy
      cases hq : p y with
      | true =>
        rw [hq] at hcall
        go_wp2_with fail
        refine hcall.mono ?_; rintro e w' ⟨rfl, hb'⟩
        go_wp2
        go_ret
        refine ⟨?_, hb'⟩
        rw [int_ix_hit p l kk hlt (by rw [B.out]; exact hq) AF.out]
        rfl
      | false =>
        rw [hq] at hcall
        go_wp2_with fail
        refine hcall.mono ?_; rintro e w' ⟨rfl, hb'⟩
        go_wp2
        go_roundg (l.length - (kk + 1))
        case measure => omega
        case rel =>
          refine ⟨kk + 1, by omega, by omega, by go_num, hb', (show Aside _ from fun j hj => ?_)⟩
          by_cases e : j = kk
          · subst e
            rw [B.out]; exact hq
          · exact AF.out j (by omega)
    · have hltz : ¬ (kk : Int) < (l.length : Int) := by omega
      have : kk = l.length := by omega
      subst this
      go_wp2
      go_ret
      refine ⟨?_, BW.out⟩
      rw [int_ix_miss p l AF.out]
      rfl
set_option maxHeartbeats 4000000 in
set_option maxRecDepth 100000 in
theorem int_ContainsFunc (p : Int → Bool) (g : Nat) (lb : Array Value) (A : Option Addr) (c : Nat) (l : List Int) (w0 w : World) (hB : Below w0.heap.size w0 w) (eg : ∀ args w, (callFunc g args).run Try.prog w = .ok (.enter g args) w)
    (hp : ∀ (x : Int) (W : World), x ∈ l → Below w0.heap.size w0 W → Calls Try.prog g (#[.int .i64 x] ++ lb) W fun e w' => e = .returned (.bool (p x)) ∧ Below w0.heap.size w0 w') (hr : Kd.C (Kd.int .i64) w0 A l.length l) :
    Calls Try.prog 40 #[.slice A l.length c, .func (.func g) #[] lb] w fun e w' => e = .returned (.bool (l.any p)) ∧ Below w0.heap.size w0 w' := by
  have hany := Aside0.mk (int_ix_any p l)
  go_enter Try.func40, Try.ntmps40
  go_wp2_with (go_at_call 44; refine (int_IndexFunc p g lb A c l w0 _ hB eg hp hr).mono ?_; rintro e w' ⟨rfl, hb'⟩)
  go_ret
  exact ⟨by rw [← hany.out]; rfl, hb'⟩

theorem network_within.eq (a lo hi : Int) : network_within.f a lo hi = some (decide (lo ≤ a) && decide (a ≤ hi)) := by
  unfold network_within.f
  by_cases h : a ≥ lo
  · rw [if_pos h]; simp [show lo ≤ a from h]
  · rw [if_neg h]; simp [show ¬ lo ≤ a from h]
/-- Is an activity bad: the closure of Check. -/
def network_Check.bad (per : Int) (last : Int) (x : S31) : Bool :=
  !(decide (0 ≤ x.f1) && decide (x.f1 ≤ last)) || (!(decide (0 ≤ x.f2) && decide (x.f2 ≤ last)) || (x.f1 == x.f2 || (decide (x.f3 < -65536) || (decide (x.f4 < x.f3) || (decide (65536 < x.f4) || (decide (per ≤ wrap64 (x.f4 - x.f3)) || !(decide (0 ≤ x.f5) && decide (x.f5 ≤ 1048576))))))))

set_option maxHeartbeats 8000000 in
set_option maxRecDepth 100000 in
theorem network_Check.closure (per last : Int) (x : S31) (g3 g1 : Nat) (w W : World) (hb : Below w.heap.size w W) (hg3 : g3 < w.heap.size) (hg1 : g1 < w.heap.size) (hl : w.cell? ⟨g3, 0, none⟩ = some (.int .i64 last)) (hp : w.cell? ⟨g1, 0, none⟩ = some (.int .i64 per)) :
    Calls Try.prog 27 #[.agg #[.int .i64 x.f0, .int .i64 x.f1, .int .i64 x.f2, .int .i64 x.f3, .int .i64 x.f4, .int .i64 x.f5], .pointer (some ⟨g3, 0, none⟩), .pointer (some ⟨g1, 0, none⟩)] W fun e w' => e = .returned (.bool (network_Check.bad per last x)) ∧ Below w.heap.size w w' := by
  replace hl : W.cell? ⟨g3, 0, none⟩ = some (.int .i64 last) := (hb.cell (p := ⟨g3, 0, none⟩) hg3).trans hl
  replace hp : W.cell? ⟨g1, 0, none⟩ = some (.int .i64 per) := (hb.cell (p := ⟨g1, 0, none⟩) hg1).trans hp
  have hs := hb.size
  have ha3 : g3 < W.heap.size := Nat.lt_of_lt_of_le hg3 hs
  have ha1 : g1 < W.heap.size := Nat.lt_of_lt_of_le hg1 hs
  have hn3 : g3 ≠ W.heap.size := Nat.ne_of_lt ha3
  have hn1 : g1 ≠ W.heap.size := Nat.ne_of_lt ha1
  have hu31 := Try.underlying31
  unfold network_Check.bad
  have h0 := network_within.eq (x.f1) (0) (last)
  cases e0 : (decide (0 ≤ x.f1) && decide (x.f1 ≤ last))
  · rw [e0] at h0; simp only [Bool.not_false, Bool.true_or]
    clear e0
    go_enter Try.func27, Try.ntmps27
    go_wp2_with (go_at_call 25; first | ((with_reducible refine (network_within.calls _ _ _ _ _ h0).mono ?_); rintro e w' ⟨rfl, ⟨nd, rfl⟩⟩))
    go_ret
    exact ⟨by first | rfl | (simp; done) | (simp [*]; done), by repeat (first | (with_reducible first | exact hb.alloc hs _ | apply pw_below_drewN | apply below_drew1))⟩
  · rw [e0] at h0; simp only [Bool.not_true, Bool.false_or]
    clear e0
    have h1 := network_within.eq (x.f2) (0) (last)
    cases e1 : (decide (0 ≤ x.f2) && decide (x.f2 ≤ last))
    · rw [e1] at h1; simp only [Bool.not_false, Bool.true_or]
      clear e1
      go_enter Try.func27, Try.ntmps27
      go_wp2_with (go_at_call 25; first | ((with_reducible refine (network_within.calls _ _ _ _ _ h0).mono ?_); rintro e w' ⟨rfl, ⟨nd, rfl⟩⟩) | ((with_reducible refine (network_within.calls _ _ _ _ _ h1).mono ?_); rintro e w' ⟨rfl, ⟨nd, rfl⟩⟩))
      go_ret
      exact ⟨by first | rfl | (simp; done) | (simp [*]; done), by repeat (first | (with_reducible first | exact hb.alloc hs _ | apply pw_below_drewN | apply below_drew1))⟩
    · rw [e1] at h1; simp only [Bool.not_true, Bool.false_or]
      clear e1
      cases h2 : (x.f1 == x.f2)
      · simp only [Bool.false_or]
        cases h3 : decide (x.f3 < -65536)
        · simp only [Bool.false_or]
          cases h4 : decide (x.f4 < x.f3)
          · simp only [Bool.false_or]
            cases h5 : decide (65536 < x.f4)
            · simp only [Bool.false_or]
              cases h6 : decide (per ≤ wrap64 (x.f4 - x.f3))
              · simp only [Bool.false_or]
                have h7 := network_within.eq (x.f5) (0) (1048576)
                cases e7 : (decide (0 ≤ x.f5) && decide (x.f5 ≤ 1048576))
                · rw [e7] at h7; simp only [Bool.not_false, Bool.true_or]
                  clear e7
                  go_enter Try.func27, Try.ntmps27
                  go_wp2_with (go_at_call 25; first | ((with_reducible refine (network_within.calls _ _ _ _ _ h0).mono ?_); rintro e w' ⟨rfl, ⟨nd, rfl⟩⟩) | ((with_reducible refine (network_within.calls _ _ _ _ _ h1).mono ?_); rintro e w' ⟨rfl, ⟨nd, rfl⟩⟩) | ((with_reducible refine (network_within.calls _ _ _ _ _ h7).mono ?_); rintro e w' ⟨rfl, ⟨nd, rfl⟩⟩))
                  go_ret
                  exact ⟨by first | rfl | (simp; done) | (simp [*]; done), by repeat (first | (with_reducible first | exact hb.alloc hs _ | apply pw_below_drewN | apply below_drew1))⟩
                · rw [e7] at h7; simp only [Bool.not_true, Bool.false_or]
                  clear e7
                  go_enter Try.func27, Try.ntmps27
                  go_wp2_with (go_at_call 25; first | ((with_reducible refine (network_within.calls _ _ _ _ _ h0).mono ?_); rintro e w' ⟨rfl, ⟨nd, rfl⟩⟩) | ((with_reducible refine (network_within.calls _ _ _ _ _ h1).mono ?_); rintro e w' ⟨rfl, ⟨nd, rfl⟩⟩) | ((with_reducible refine (network_within.calls _ _ _ _ _ h7).mono ?_); rintro e w' ⟨rfl, ⟨nd, rfl⟩⟩))
                  go_ret
                  exact ⟨by first | rfl | (simp; done) | (simp [*]; done), by repeat (first | (with_reducible first | exact hb.alloc hs _ | apply pw_below_drewN | apply below_drew1))⟩
              · simp only [Bool.true_or]
                go_enter Try.func27, Try.ntmps27
                go_wp2_with (go_at_call 25; first | ((with_reducible refine (network_within.calls _ _ _ _ _ h0).mono ?_); rintro e w' ⟨rfl, ⟨nd, rfl⟩⟩) | ((with_reducible refine (network_within.calls _ _ _ _ _ h1).mono ?_); rintro e w' ⟨rfl, ⟨nd, rfl⟩⟩))
                go_ret
                exact ⟨by first | rfl | (simp; done) | (simp [*]; done), by repeat (first | (with_reducible first | exact hb.alloc hs _ | apply pw_below_drewN | apply below_drew1))⟩
            · simp only [Bool.true_or]
              go_enter Try.func27, Try.ntmps27
              go_wp2_with (go_at_call 25; first | ((with_reducible refine (network_within.calls _ _ _ _ _ h0).mono ?_); rintro e w' ⟨rfl, ⟨nd, rfl⟩⟩) | ((with_reducible refine (network_within.calls _ _ _ _ _ h1).mono ?_); rintro e w' ⟨rfl, ⟨nd, rfl⟩⟩))
              go_ret
              exact ⟨by first | rfl | (simp; done) | (simp [*]; done), by repeat (first | (with_reducible first | exact hb.alloc hs _ | apply pw_below_drewN | apply below_drew1))⟩
          · simp only [Bool.true_or]
            go_enter Try.func27, Try.ntmps27
            go_wp2_with (go_at_call 25; first | ((with_reducible refine (network_within.calls _ _ _ _ _ h0).mono ?_); rintro e w' ⟨rfl, ⟨nd, rfl⟩⟩) | ((with_reducible refine (network_within.calls _ _ _ _ _ h1).mono ?_); rintro e w' ⟨rfl, ⟨nd, rfl⟩⟩))
            go_ret
            exact ⟨by first | rfl | (simp; done) | (simp [*]; done), by repeat (first | (with_reducible first | exact hb.alloc hs _ | apply pw_below_drewN | apply below_drew1))⟩
        · simp only [Bool.true_or]
          go_enter Try.func27, Try.ntmps27
          go_wp2_with (go_at_call 25; first | ((with_reducible refine (network_within.calls _ _ _ _ _ h0).mono ?_); rintro e w' ⟨rfl, ⟨nd, rfl⟩⟩) | ((with_reducible refine (network_within.calls _ _ _ _ _ h1).mono ?_); rintro e w' ⟨rfl, ⟨nd, rfl⟩⟩))
          go_ret
          exact ⟨by first | rfl | (simp; done) | (simp [*]; done), by repeat (first | (with_reducible first | exact hb.alloc hs _ | apply pw_below_drewN | apply below_drew1))⟩
      · simp only [Bool.true_or]
        go_enter Try.func27, Try.ntmps27
        go_wp2_with (go_at_call 25; first | ((with_reducible refine (network_within.calls _ _ _ _ _ h0).mono ?_); rintro e w' ⟨rfl, ⟨nd, rfl⟩⟩) | ((with_reducible refine (network_within.calls _ _ _ _ _ h1).mono ?_); rintro e w' ⟨rfl, ⟨nd, rfl⟩⟩))
        go_ret
        exact ⟨by first | rfl | (simp; done) | (simp [*]; done), by repeat (first | (with_reducible first | exact hb.alloc hs _ | apply pw_below_drewN | apply below_drew1))⟩

def network_Check.b (a0_0 : Int) (l0_1 : List S46) (l0_2 : List S31) : Bool :=
  (decide (2 ≤ a0_0) && decide (a0_0 ≤ 7200) && decide (l0_1.length ≤ 48) && decide (l0_2.length ≤ 512) && !(l0_2.any (network_Check.bad a0_0 ((l0_1.length : Int) - 1))))
def network_Check.f (a0_0 : Int) (l0_1 : List S46) (l0_2 : List S31) : Option Bool := some (network_Check.b a0_0 l0_1 l0_2)
set_option maxHeartbeats 8000000 in
set_option maxRecDepth 100000 in
theorem network_Check.calls (a0_0 : Int) (A0_1 : Option Addr) (c0_1 : Nat) (l0_1 : List S46) (A0_2 : Option Addr) (c0_2 : Nat) (l0_2 : List S31) (r : Bool) (w : World) (hr0_1 : Kd.C k46 w A0_1 l0_1.length l0_1) (hc0_1 : l0_1.length ≤ c0_1) (hr0_2 : Kd.C k31 w A0_2 l0_2.length l0_2) (hc0_2 : l0_2.length ≤ c0_2) (h : network_Check.f a0_0 l0_1 l0_2 = some r) :
    Calls Try.prog 12 #[.agg #[.int .i64 a0_0, .slice A0_1 l0_1.length c0_1, .slice A0_2 l0_2.length c0_2]] w fun e w' => e = .returned (.bool r) ∧ Below w.heap.size w w' := by
  have hun := Try.underlying26
  have hmf : ∀ (fn : Fn) (first cap : Array Value) (w : World), (Instr.makeFunc fn first cap).run Try.prog w = .ok (.func fn first cap) w := fun _ _ _ _ => rfl
  have eg : ∀ args w, (callFunc 27 args).run Try.prog w = .ok (.enter 27 args) w := enters_of Try.func27 (by kernel_rfl) rfl
  obtain rfl := Option.some.inj h
  clear h
  unfold network_Check.b
  have HB := Aside0.mk (Below.refl w.heap.size w)
  have h0 := network_within.eq a0_0 2 7200
  cases e0 : (decide (2 ≤ a0_0) && decide (a0_0 ≤ 7200))
  · rw [e0] at h0; simp only [Bool.false_and]
    clear e0
    go_enter Try.func12, Try.ntmps12
    go_wp2_with (go_at_call 25; (with_reducible refine (network_within.calls _ _ _ _ _ h0).mono ?_); rintro e w' ⟨rfl, ⟨nd, rfl⟩⟩)
    go_ret
    exact ⟨rfl, by repeat (first | (with_reducible first | exact HB.out | apply below_alloc | apply pw_below_drewN | apply below_drew1) | exact HB.out)⟩
  · rw [e0] at h0; simp only [Bool.true_and]
    clear e0
    by_cases h1 : l0_1.length ≤ 48
    · rw [decide_eq_true h1]; simp only [Bool.true_and]
      have h1b : decide ((48 : Int) < (l0_1.length : Int)) = false := decide_eq_false (by omega)
      have h1c : decide (48 < l0_1.length) = false := decide_eq_false (by omega)
      by_cases h2 : l0_2.length ≤ 512
      · rw [decide_eq_true h2]; simp only [Bool.true_and]
        have h2b : decide ((512 : Int) < (l0_2.length : Int)) = false := decide_eq_false (by omega)
        have h2c : decide (512 < l0_2.length) = false := decide_eq_false (by omega)
        have key : ∀ (W : World) (g3 g1 : Nat), Below w.heap.size w W → g3 < W.heap.size → g1 < W.heap.size → W.cell? ⟨g3, 0, none⟩ = some (.int .i64 ((l0_1.length : Int) - 1)) → W.cell? ⟨g1, 0, none⟩ = some (.int .i64 a0_0) →
            Calls Try.prog 26 #[.slice A0_2 l0_2.length c0_2, .func (.func 27) #[] #[.pointer (some ⟨g3, 0, none⟩), .pointer (some ⟨g1, 0, none⟩)]] W fun e w' => e = .returned (.bool (l0_2.any (network_Check.bad a0_0 ((l0_1.length : Int) - 1)))) ∧ Below w.heap.size w w' := by
          intro W g3 g1 hW hg3 hg1 hl hp
          refine (act_ContainsFunc (network_Check.bad a0_0 ((l0_1.length : Int) - 1)) 27 #[.pointer (some ⟨g3, 0, none⟩), .pointer (some ⟨g1, 0, none⟩)] A0_2 c0_2 l0_2 W W (Below.refl _ _) eg (fun x V _ hV => ?_) (Kd.C_below hr0_2 hW)).mono ?_
          · exact (network_Check.closure a0_0 ((l0_1.length : Int) - 1) x g3 g1 W V hV hg3 hg1 hl hp)
          · rintro e w' ⟨rfl, hb⟩
            exact ⟨rfl, hW.trans (hb.mono hW.size)⟩
        have K := Aside0.mk key
        clear key
        generalize hany : l0_2.any (network_Check.bad a0_0 ((l0_1.length : Int) - 1)) = b at K
        clear hany
        go_enter Try.func12, Try.ntmps12
        go_wp2_with (first | (go_at_call 25; (with_reducible refine (network_within.calls _ _ _ _ _ h0).mono ?_); rintro e w' ⟨rfl, ⟨nd, rfl⟩⟩))
        refine (K.out _ _ _ (by repeat (first | (with_reducible first | exact HB.out | apply below_alloc | apply pw_below_drewN | apply below_drew1) | exact HB.out)) (by first | (simp; done) | (simp; omega)) (by first | (simp; done) | (simp; omega)) (by first | (go_simp; done) | (simp; done)) (by first | (go_simp; done) | (simp; done))).mono ?_
        rintro e w' ⟨rfl, hb⟩
        go_wp2
        go_ret
        exact ⟨rfl, hb⟩
      · rw [decide_eq_false h2]; simp only [Bool.false_and]
        have h2b : decide ((512 : Int) < (l0_2.length : Int)) = true := decide_eq_true (by omega)
        have h2c : decide (512 < l0_2.length) = true := decide_eq_true (by omega)
        go_enter Try.func12, Try.ntmps12
        go_wp2_with (go_at_call 25; (with_reducible refine (network_within.calls _ _ _ _ _ h0).mono ?_); rintro e w' ⟨rfl, ⟨nd, rfl⟩⟩)
        go_ret
        exact ⟨rfl, by repeat (first | (with_reducible first | exact HB.out | apply below_alloc | apply pw_below_drewN | apply below_drew1) | exact HB.out)⟩
    · rw [decide_eq_false h1]; simp only [Bool.false_and]
      have h1b : decide ((48 : Int) < (l0_1.length : Int)) = true := decide_eq_true (by omega)
      have h1c : decide (48 < l0_1.length) = true := decide_eq_true (by omega)
      go_enter Try.func12, Try.ntmps12
      go_wp2_with (go_at_call 25; (with_reducible refine (network_within.calls _ _ _ _ _ h0).mono ?_); rintro e w' ⟨rfl, ⟨nd, rfl⟩⟩)
      go_ret
      exact ⟨rfl, by repeat (first | (with_reducible first | exact HB.out | apply below_alloc | apply pw_below_drewN | apply below_drew1) | exact HB.out)⟩


end Go.Proofs.Ytapnkefhihgbbaa.PAll
