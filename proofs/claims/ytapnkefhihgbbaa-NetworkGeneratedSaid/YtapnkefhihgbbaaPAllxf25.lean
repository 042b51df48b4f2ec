/- What calls of the Go functions below do, each under the premises that its theorem states. Laid by a program of the claimant, which drives the kit's print; some texts are written by hand. -/
import Derived.Test.YtapnkefhihgbbaaPAllx0
import Derived.Test.YtapnkefhihgbbaaPAllxf22
namespace Go.Proofs.Ytapnkefhihgbbaa.PAll
open Go.RowKit Go.Proofs.YtapnkefhihgbbaaW.PrintWords Go.Proofs.YtapnkefhihgbbaaW.PrintLast Go.Proofs.YtapnkefhihgbbaaW.PrintMore
attribute [local go_sem] max2_int min2_int max_two min_two max_three min_three max_four min_four   -- for this text's walks alone
set_option linter.unusedVariables false
set_option linter.unusedSimpArgs false

/-! ### network_within: function 25 -/
def network_within.f (a0 : Int) (a1 : Int) (a2 : Int) : Option (Bool) := if a0 ≥ a1 then (some (decide (a0 ≤ a2))) else (some false)
set_option maxHeartbeats 8000000 in
set_option maxRecDepth 100000 in
theorem network_within.calls (a0 : Int) (a1 : Int) (a2 : Int) (r : Bool) (w : World) (h : network_within.f a0 a1 a2 = some r) :
    Calls Try.prog 25 #[.int .i64 a0, .int .i64 a1, .int .i64 a2] w fun e w' => e = .returned (.bool r) ∧ Drawn0 w w' := by
  have H : (if a0 ≥ a1 then (some (decide (a0 ≤ a2))) else (some false)) = some r := h
  clear h
  by_cases c4 : a0 ≥ a1
  · rw [if_pos c4] at H
    have c4b0 : decide (a1 ≤ a0) = true := decide_eq_true c4
    clear c4
    obtain rfl := Option.some.inj H
    go_enter Try.func25, Try.ntmps25
    go_wp2
    go_ret
    exact ⟨by first | rfl | (simp; done) | (simp [*]; done), by repeat (first | exact Drawn0.refl _ | apply Drawn0.step)⟩
  · rw [if_neg c4] at H
    have c4b0 : decide (a1 ≤ a0) = false := decide_eq_false c4
    clear c4
    obtain rfl := Option.some.inj H
    go_enter Try.func25, Try.ntmps25
    go_wp2
    go_ret
    exact ⟨by first | rfl | (simp; done) | (simp [*]; done), by repeat (first | exact Drawn0.refl _ | apply Drawn0.step)⟩

-- NOT PRINTED: function 38 (api_Activity_38)

-- NOT PRINTED: function 26 (api_Activity_26)

/-! ### network_Check: function 12 -/
def act_ix (p : S31 → Bool) (l : List S31) : Int := if l.any p then (l.findIdx p : Int) else -1
theorem act_ix_hit (p : S31 → Bool) (l : List S31) (k : Nat) (hk : k < l.length) (h : p (rd_T31 l (k : Int)) = true) (hb : ∀ j : Nat, j < k → p (rd_T31 l (j : Int)) = false) : act_ix p l = k := by
  have hg : ∀ j : Nat, (hj : j < l.length) → rd_T31 l (j : Int) = l[j] := fun j hj => by
    unfold rd_T31; rw [Int.toNat_natCast, List.getD_eq_getElem?_getD, List.getElem?_eq_getElem hj]; rfl
  have hany : l.any p = true := List.any_eq_true.mpr ⟨l[k], List.getElem_mem hk, by rw [← hg k hk]; exact h⟩
  have hf : l.findIdx p = k := by
    rw [List.findIdx_eq hk]
    exact ⟨by rw [← hg k hk]; exact h, fun j hj => by rw [← hg j (by omega)]; exact hb j hj⟩
  unfold act_ix
  rw [if_pos hany, hf]
theorem act_ix_miss (p : S31 → Bool) (l : List S31) (hb : ∀ j : Nat, j < l.length → p (rd_T31 l (j : Int)) = false) : act_ix p l = -1 := by
  have hg : ∀ j : Nat, (hj : j < l.length) → rd_T31 l (j : Int) = l[j] := fun j hj => by
    unfold rd_T31; rw [Int.toNat_natCast, List.getD_eq_getElem?_getD, List.getElem?_eq_getElem hj]; rfl
  have hany : l.any p = false := by
    rw [List.any_eq_false]
    intro x hx
    obtain ⟨j, hj, rfl⟩ := List.getElem_of_mem hx
    rw [← hg j hj, hb j hj]; simp
  unfold act_ix
  rw [hany]; rfl
theorem act_ix_any (p : S31 → Bool) (l : List S31) : decide (0 ≤ act_ix p l) = l.any p := by
  unfold act_ix
  cases h : l.any p
  · simp
  · simp
set_option maxHeartbeats 4000000 in
set_option maxRecDepth 100000 in
theorem act_IndexFunc (p : S31 → Bool) (g : Nat) (lb : Array Value) (A : Option Addr) (c : Nat) (l : List S31) (w0 w : World) (hB : Below w0.heap.size w0 w) (eg : ∀ args w, (callFunc g args).run Try.prog w = .ok (.enter g args) w)
    (hp : ∀ (x : S31) (W : World), x ∈ l → Below w0.heap.size w0 W → Calls Try.prog g (#[.agg #[.int .i64 x.f0, .int .i64 x.f1, .int .i64 x.f2, .int .i64 x.f3, .int .i64 x.f4, .int .i64 x.f5]] ++ lb) W fun e w' => e = .returned (.bool (p x)) ∧ Below w0.heap.size w0 w') (hr : Kd.C k31 w0 A l.length l) :
    Calls Try.prog 38 #[.slice A l.length c, .func (.func g) #[] lb] w fun e w' => e = .returned (.int .i64 (act_ix p l)) ∧ Below w0.heap.size w0 w' := by
  have hm : l.length ≤ 9223372036854775807 := hr.2.1
  have hu := Try.underlying31
  have HB := Aside0.mk hB
  have HR := Aside0.mk hr
  clear hB hr
  go_enter Try.func38, Try.ntmps38
  go_wp2
  go_loopg [5, 8] l.length (fun gg _ s8 wr => ∃ kk : Nat, kk ≤ l.length ∧ l.length - kk ≤ gg ∧ s8 = .int .i64 kk ∧ Aside (Below w0.heap.size w0 wr) ∧ Aside (∀ j : Nat, j < kk → p (rd_T31 l (j : Int)) = false))
  case atStart => exact ⟨0, Nat.zero_le _, by omega, rfl, HB.out, fun j hj => absurd hj (Nat.not_lt_zero _)⟩
  case round =>
    obtain ⟨kk, hkk, hg, rfl, BW, AF⟩ := hrel
    by_cases hlt : kk < l.length
    · have hltz : (kk : Int) < (l.length : Int) := by omega
      have h0z : (0 : Int) ≤ (kk : Int) := by omega
      obtain ⟨ad, e, hx0, hx1, hx2, hx3, hx4, hx5⟩ := at_T31 (Kd.C_below HR.out BW.out) (kk : Int) h0z hltz
      rw [Int.toNat_natCast] at hx0 hx1 hx2 hx3 hx4 hx5
      cases e
      have hmem : rd_T31 l (kk : Int) ∈ l := by
        unfold rd_T31; rw [Int.toNat_natCast, List.getD_eq_getElem?_getD, List.getElem?_eq_getElem hlt]; exact List.getElem_mem hlt
      have hcall := hp (rd_T31 l (kk : Int)) wr hmem BW.out
      clear hmem
      generalize hy : rd_T31 l (kk : Int) = y at hcall hx0 hx1 hx2 hx3 hx4 hx5
      have B := Aside0.mk hy
      clear hy
      cases hq : p y with
      | true =>
        rw [hq] at hcall
        go_wp2_with fail
        refine hcall.mono ?_; rintro e w' ⟨rfl, hb'⟩
        go_wp2
        go_ret
        refine ⟨?_, hb'⟩
        rw [act_ix_hit p l kk hlt (by rw [B.out]; exact hq) AF.out]
        rfl
      | false =>
        rw [hq] at hcall
        go_wp2_with fail
        refine hcall.mono ?_; rintro e w' ⟨rfl, hb'⟩
        go_wp2
        go_roundg (l.length - (kk + 1))
        case measure => omega
        case rel =>
          refine ⟨kk + 1, by omega, by omega, by go_num, hb', (show Aside _ from fun j hj => ?_)⟩
          by_cases e : j = kk
          · subst e
            rw [B.out]; exact hq
          · exact AF.out j (by omega)
    · have hltz : ¬ (kk : Int) < (l.length : Int) := by omega
      have : kk = l.length := by omega
      subst this
      go_wp2
      go_ret
      refine ⟨?_, BW.out⟩
      rw [act_ix_miss p l AF.out]
      rfl
set_option maxHeartbeats 4000000 in
set_option maxRecDepth 100000 in
theorem act_ContainsFunc (p : S31 → Bool) (g : Nat) (lb : Array Value) (A : Option Addr) (c : Nat) (l : List S31) (w0 w : World) (hB : Below w0.heap.size w0 w) (eg : ∀ args w, (callFunc g args).run Try.prog w = .ok (.enter g args) w)
    (hp : ∀ (x : S31) (W : World), x ∈ l → Below w0.heap.size w0 W → Calls Try.prog g (#[.agg #[.int .i64 x.f0, .int .i64 x.f1, .int .i64 x.f2, .int .i64 x.f3, .int .i64 x.f4, .int .i64 x.f5]] ++ lb) W fun e w' => e = .returned (.bool (p x)) ∧ Below w0.heap.size w0 w') (hr : Kd.C k31 w0 A l.length l) :
    Calls Try.prog 26 #[.slice A l.length c, .func (.func g) #[] lb] w fun e w' => e = .returned (.bool (l.any p)) ∧ Below w0.heap.size w0 w' := by
  have hany := Aside0.mk (act_ix_any p l)
  go_enter Try.func26, Try.ntmps26
  go_wp2_with (go_at_call 38; refine (act_IndexFunc p g lb A c l w0 _ hB eg hp hr).mono ?_; rintro e w' ⟨rfl, hb'⟩)
  go_ret
  exact ⟨by rw [← hany.out]; rfl, hb'⟩

def int_ix (p : Int → Bool) (l : List Int) : Int := if l.any p then (l.findIdx p : Int) else -1
theorem int_ix_hit (p : Int → Bool) (l : List Int) (k : Nat) (hk : k < l.length) (h : p (rd l (k : Int)) = true) (hb : ∀ j : Nat, j < k → p (rd l (j : Int)) = false) : int_ix p l = k := by
  have hg : ∀ j : Nat, (hj : j < l.length) → rd l (j : Int) = l[j] := fun j hj => by
    unfold rd; rw [Int.toNat_natCast, List.getD_eq_getElem?_getD, List.getElem?_eq_getElem hj]; rfl
  have hany : l.any p = true := List.any_eq_true.mpr ⟨l[k], List.getElem_mem hk, by rw [← hg k hk]; exact h⟩
  have hf : l.findIdx p = k := by
    rw [List.findIdx_eq hk]
    exact ⟨by rw [← hg k hk]; exact h, fun j hj => by rw [← hg j (by omega)]; exact hb j hj⟩
  unfold int_ix
  rw [if_pos hany, hf]
theorem int_ix_miss (p : Int → Bool) (l : List Int) (hb : ∀ j : Nat, j < l.length → p (rd l (j : Int)) = false) : int_ix p l = -1 := by
  have hg : ∀ j : Nat, (hj : j < l.length) → rd l (j : Int) = l[j] := fun j hj => by
    unfold rd; rw [Int.toNat_natCast, List.getD_eq_getElem?_getD, List.getElem?_eq_getElem hj]; rfl
  have hany : l.any p = false := by
    rw [List.any_eq_false]
    intro x hx
    obtain ⟨j, hj, rfl⟩ := List.getElem_of_mem hx
    rw [← hg j hj, hb j hj]; simp
  unfold int_ix
  rw [hany]; rfl
theorem int_ix_any (p : Int → Bool) (l : List Int) : decide (0 ≤ int_ix p l) = l.any p := by
  unfold int_ix
  cases h : l.any p
  · simp
  · simp
set_option maxHeartbeats 4000000 in
set_option maxRecDepth 100000 in
theorem int_IndexFunc (p : Int → Bool) (g : Nat) (lb : Array Value) (A : Option Addr) (c : Nat) (l : List Int) (w0 w : World) (hB : Below w0.heap.size w0 w) (eg : ∀ args w, (callFunc g args).run Try.prog w = .ok (.enter g args) w)
    (hp : ∀ (x : Int) (W : World), x ∈ l → Below w0.heap.size w0 W → Calls Try.prog g (#[.int .i64 x] ++ lb) W fun e w' => e = .returned (.bool (p x)) ∧ Below w0.heap.size w0 w') (hr : Kd.C (Kd.int .i64) w0 A l.length l) :
    Calls Try.prog 44 #[.slice A l.length c, .func (.func g) #[] lb] w fun e w' => e = .returned (.int .i64 (int_ix p l)) ∧ Below w0.heap.size w0 w' := by
  have hm : l.length ≤ 9223372036854775807 := hr.2.1
  have HB := Aside0.mk hB
  have HR := Aside0.mk hr
  clear hB hr
  go_enter Try.func44, Try.ntmps44
  go_wp2
  go_loopg [5, 8] l.length (fun gg _ s8 wr => ∃ kk : Nat, kk ≤ l.length ∧ l.length - kk ≤ gg ∧ s8 = .int .i64 kk ∧ Aside (Below w0.heap.size w0 wr) ∧ Aside (∀ j : Nat, j < kk → p (rd l (j : Int)) = false))
  case atStart => exact ⟨0, Nat.zero_le _, by omega, rfl, HB.out, fun j hj => absurd hj (Nat.not_lt_zero _)⟩
  case round =>
    obtain ⟨kk, hkk, hg, rfl, BW, AF⟩ := hrel
    by_cases hlt : kk < l.length
    · have hltz : (kk : Int) < (l.length : Int) := by omega
      have h0z : (0 : Int) ≤ (kk : Int) := by omega
      obtain ⟨ad, e, hx0⟩ := Kd.at_int (Kd.C_below HR.out BW.out) (kk : Int) h0z hltz
      rw [Int.toNat_natCast] at hx0
      cases e
      have hmem : rd l (kk : Int) ∈ l := by
        unfold rd; rw [Int.toNat_natCast, List.getD_eq_getElem?_getD, List.getElem?_eq_getElem hlt]; exact List.getElem_mem hlt
      have hcall := hp (rd l (kk : Int)) wr hmem BW.out
      clear hmem
      generalize hy : rd l (kk : Int) = y at hcall hx0
      have B := Aside0.mk hy
      clear hy
      cases hq : p y with
      | true =>
        rw [hq] at hcall
        go_wp2_with fail
        refine hcall.mono ?_; rintro e w' ⟨rfl, hb'⟩
        go_wp2
        go_ret
        refine ⟨?_, hb'⟩
        rw [int_ix_hit p l kk hlt (by rw [B.out]; exact hq) AF.out]
        rfl
      | false =>
        rw [hq] at hcall
        go_wp2_with fail
        refine hcall.mono ?_; rintro e w' ⟨rfl, hb'⟩
        go_wp2
        go_roundg (l.length - (kk + 1))
        case measure => omega
        case rel =>
          refine ⟨kk + 1, by omega, by omega, by go_num, hb', (show Aside _ from fun j hj => ?_)⟩
          by_cases e : j = kk
          · subst e
            rw [B.out]; exact hq
          · exact AF.out j (by omega)
    · have hltz : ¬ (kk : Int) < (l.length : Int) := by omega
      have : kk = l.length := by omega
      subst this
      go_wp2
      go_ret
      refine ⟨?_, BW.out⟩
      rw [int_ix_miss p l AF.out]
      rfl
set_option maxHeartbeats 4000000 in
set_option maxRecDepth 100000 in
theorem int_ContainsFunc (p : Int → Bool) (g : Nat) (lb : Array Value) (A : Option Addr) (c : Nat) (l : List Int) (w0 w : World) (hB : Below w0.heap.size w0 w) (eg : ∀ args w, (callFunc g args).run Try.prog w = .ok (.enter g args) w)
    (hp : ∀ (x : Int) (W : World), x ∈ l → Below w0.heap.size w0 W → Calls Try.prog g (#[.int .i64 x] ++ lb) W fun e w' => e = .returned (.bool (p x)) ∧ Below w0.heap.size w0 w') (hr : Kd.C (Kd.int .i64) w0 A l.length l) :
    Calls Try.prog 40 #[.slice A l.length c, .func (.func g) #[] lb] w fun e w' => e = .returned (.bool (l.any p)) ∧ Below w0.heap.size w0 w' := by
  have hany := Aside0.mk (int_ix_any p l)
  go_enter Try.func40, Try.ntmps40
  go_wp2_with (go_at_call 44; refine (int_IndexFunc p g lb A c l w0 _ hB eg hp hr).mono ?_; rintro e w' ⟨rfl, hb'⟩)
  go_ret
  exact ⟨by rw [← hany.out]; rfl, hb'⟩

theorem network_within.eq (a lo hi : Int) : network_within.f a lo hi = some (decide (lo ≤ a) && decide (a ≤ hi)) := by
  unfold network_within.f
  by_cases h : a ≥ lo
  · rw [if_pos h]; simp [show lo ≤ a from h]
  · rw [if_neg h]; simp [show ¬ lo ≤ a from h]
/-- Is an activity bad: the closure of Check. -/
def network_Check.bad (per : Int) (last : Int) (x : S31) : Bool :=
  !(decide (0 ≤ x.f1) && decide (x.f1 ≤ last)) || (!(decide (0 ≤ x.f2) && decide (x.f2 ≤ last)) || (x.f1 == x.f2 || (decide (x.f3 < -65536) || (decide (x.f4 < x.f3) || (decide (65536 < x.f4) || (decide (per ≤ wrap64 (x.f4 - x.f3)) || !(decide (0 ≤ x.f5) && decide (x.f5 ≤ 1048576))))))))

set_option maxHeartbeats 8000000 in
set_option maxRecDepth 100000 in
theorem network_Check.closure (per last : Int) (x : S31) (g3 g1 : Nat) (w W : World) (hb : Below w.heap.size w W) (hg3 : g3 < w.heap.size) (hg1 : g1 < w.heap.size) (hl : w.cell? ⟨g3, 0, none⟩ = some (.int .i64 last)) (hp : w.cell? ⟨g1, 0, none⟩ = some (.int .i64 per)) :
    Calls Try.prog 27 #[.agg #[.int .i64 x.f0, .int .i64 x.f1, .int .i64 x.f2, .int .i64 x.f3, .int .i64 x.f4, .int .i64 x.f5], .pointer (some ⟨g3, 0, none⟩), .pointer (some ⟨g1, 0, none⟩)] W fun e w' => e = .returned (.bool (network_Check.bad per last x)) ∧ Below w.heap.size w w' := by
  replace hl : W.cell? ⟨g3, 0, none⟩ = some (.int .i64 last) := (hb.cell (p := ⟨g3, 0, none⟩) hg3).trans hl
  replace hp : W.cell? ⟨g1, 0, none⟩ = some (.int .i64 per) := (hb.cell (p := ⟨g1, 0, none⟩) hg1).trans hp
  have hs := hb.size
  have ha3 : g3 < W.heap.size := Nat.lt_of_lt_of_le hg3 hs
  have ha1 : g1 < W.heap.size := Nat.lt_of_lt_of_le hg1 hs
  have hn3 : g3 ≠ W.heap.size := Nat.ne_of_lt ha3
  have hn1 : g1 ≠ W.heap.size := Nat.ne_of_lt ha1
  have hu31 := Try.underlying31
  unfold network_Check.bad
  have h0 := network_within.eq (x.f1) (0) (last)
  cases e0 : (decide (0 ≤ x.f1) && decide (x.f1 ≤ last))
  · rw [e0] at h0; simp only [Bool.not_false, Bool.true_or]
    clear e0
    go_enter Try.func27, Try.ntmps27
    go_wp2_with (go_at_call 25; first | ((with_reducible refine (network_within.calls _ _ _ _ _ h0).mono ?_); rintro e w' ⟨rfl, ⟨nd, rfl⟩⟩))
    go_ret
    exact ⟨by first | rfl | (simp; done) | (simp [*]; done), by repeat (first | (with_reducible first | exact hb.alloc hs _ | apply pw_below_drewN | apply below_drew1))⟩
  · rw [e0] at h0; simp only [Bool.not_true, Bool.false_or]
    clear e0
    have h1 := network_within.eq (x.f2) (0) (last)
    cases e1 : (decide (0 ≤ x.f2) && decide (x.f2 ≤ last))
    · rw [e1] at h1; simp only [Bool.not_false, Bool.true_or]
      clear e1
      go_enter Try.func27, Try.ntmps27
      go_wp2_with (go_at_call 25; first | ((with_reducible refine (network_within.calls _ _ _ _ _ h0).mono ?_); rintro e w' ⟨rfl, ⟨nd, rfl⟩⟩) | ((with_reducible refine (network_within.calls _ _ _ _ _ h1).mono ?_); rintro e w' ⟨rfl, ⟨nd, rfl⟩⟩))
      go_ret
      exact ⟨by first | rfl | (simp; done) | (simp [*]; done), by repeat (first | (with_reducible first | exact hb.alloc hs _ | apply pw_below_drewN | apply below_drew1))⟩
    · rw [e1] at h1; simp only [Bool.not_true, Bool.false_or]
      clear e1
      cases h2 : (x.f1 == x.f2)
      · simp only [Bool.false_or]
        cases h3 : decide (x.f3 < -65536)
        · simp only [Bool.false_or]
          cases h4 : decide (x.f4 < x.f3)
          · simp only [Bool.false_or]
            cases h5 : decide (65536 < x.f4)
            · simp only [Bool.false_or]
              cases h6 : decide (per ≤ wrap64 (x.f4 - x.f3))
              · simp only [Bool.false_or]
                have h7 := network_within.eq (x.f5) (0) (1048576)
                cases e7 : (decide (0 ≤ x.f5) && decide (x.f5 ≤ 1048576))
                · rw [e7] at h7; simp only [Bool.not_false, Bool.true_or]
                  clear e7
                  go_enter Try.func27, Try.ntmps27
                  go_wp2_with (go_at_call 25; first | ((with_reducible refine (network_within.calls _ _ _ _ _ h0).mono ?_); rintro e w' ⟨rfl, ⟨nd, rfl⟩⟩) | ((with_reducible refine (network_within.calls _ _ _ _ _ h1).mono ?_); rintro e w' ⟨rfl, ⟨nd, rfl⟩⟩) | ((with_reducible refine (network_within.calls _ _ _ _ _ h7).mono ?_); rintro e w' ⟨rfl, ⟨nd, rfl⟩⟩))
                  go_ret
                  exact ⟨by first | rfl | (simp; done) | (simp [*]; done), by repeat (first | (with_reducible first | exact hb.alloc hs _ | apply pw_below_drewN | apply below_drew1))⟩
                · rw [e7] at h7; simp only [Bool.not_true, Bool.false_or]
                  clear e7
                  go_enter Try.func27, Try.ntmps27
                  go_wp2_with (go_at_call 25; first | ((with_reducible refine (network_within.calls _ _ _ _ _ h0).mono ?_); rintro e w' ⟨rfl, ⟨nd, rfl⟩⟩) | ((with_reducible refine (network_within.calls _ _ _ _ _ h1).mono ?_); rintro e w' ⟨rfl, ⟨nd, rfl⟩⟩) | ((with_reducible refine (network_within.calls _ _ _ _ _ h7).mono ?_); rintro e w' ⟨rfl, ⟨nd, rfl⟩⟩))
                  go_ret
                  exact ⟨by first | rfl | (simp; done) | (simp [*]; done), by repeat (first | (with_reducible first | exact hb.alloc hs _ | apply pw_below_drewN | apply below_drew1))⟩
              · simp only [Bool.true_or]
                go_enter Try.func27, Try.ntmps27
                go_wp2_with (go_at_call 25; first | ((with_reducible refine (network_within.calls _ _ _ _ _ h0).mono ?_); rintro e w' ⟨rfl, ⟨nd, rfl⟩⟩) | ((with_reducible refine (network_within.calls _ _ _ _ _ h1).mono ?_); rintro e w' ⟨rfl, ⟨nd, rfl⟩⟩))
                go_ret
                exact ⟨by first | rfl | (simp; done) | (simp [*]; done), by repeat (first | (with_reducible first | exact hb.alloc hs _ | apply pw_below_drewN | apply below_drew1))⟩
            · simp only [Bool.true_or]
              go_enter Try.func27, Try.ntmps27
              go_wp2_with (go_at_call 25; first | ((with_reducible refine (network_within.calls _ _ _ _ _ h0).mono ?_); rintro e w' ⟨rfl, ⟨nd, rfl⟩⟩) | ((with_reducible refine (network_within.calls _ _ _ _ _ h1).mono ?_); rintro e w' ⟨rfl, ⟨nd, rfl⟩⟩))
              go_ret
              exact ⟨by first | rfl | (simp; done) | (simp [*]; done), by repeat (first | (with_reducible first | exact hb.alloc hs _ | apply pw_below_drewN | apply below_drew1))⟩
          · simp only [Bool.true_or]
            go_enter Try.func27, Try.ntmps27
            go_wp2_with (go_at_call 25; first | ((with_reducible refine (network_within.calls _ _ _ _ _ h0).mono ?_); rintro e w' ⟨rfl, ⟨nd, rfl⟩⟩) | ((with_reducible refine (network_within.calls _ _ _ _ _ h1).mono ?_); rintro e w' ⟨rfl, ⟨nd, rfl⟩⟩))
            go_ret
            exact ⟨by first | rfl | (simp; done) | (simp [*]; done), by repeat (first | (with_reducible first | exact hb.alloc hs _ | apply pw_below_drewN | apply below_drew1))⟩
        · simp only [Bool.true_or]
          go_enter Try.func27, Try.ntmps27
          go_wp2_with (go_at_call 25; first | ((with_reducible refine (network_within.calls _ _ _ _ _ h0).mono ?_); rintro e w' ⟨rfl, ⟨nd, rfl⟩⟩) | ((with_reducible refine (network_within.calls _ _ _ _ _ h1).mono ?_); rintro e w' ⟨rfl, ⟨nd, rfl⟩⟩))
          go_ret
          exact ⟨by first | rfl | (simp; done) | (simp [*]; done), by repeat (first | (with_reducible first | exact hb.alloc hs _ | apply pw_below_drewN | apply below_drew1))⟩
      · simp only [Bool.true_or]
        go_enter Try.func27, Try.ntmps27
        go_wp2_with (go_at_call 25; first | ((with_reducible refine (network_within.calls _ _ _ _ _ h0).mono ?_); rintro e w' ⟨rfl, ⟨nd, rfl⟩⟩) | ((with_reducible refine (network_within.calls _ _ _ _ _ h1).mono ?_); rintro e w' ⟨rfl, ⟨nd, rfl⟩⟩))
        go_ret
        exact ⟨by first | rfl | (simp; done) | (simp [*]; done), by repeat (first | (with_reducible first | exact hb.alloc hs _ | apply pw_below_drewN | apply below_drew1))⟩

def network_Check.b (a0_0 : Int) (l0_1 : List S46) (l0_2 : List S31) : Bool :=
  (decide (2 ≤ a0_0) && decide (a0_0 ≤ 7200) && decide (l0_1.length ≤ 48) && decide (l0_2.length ≤ 512) && !(l0_2.any (network_Check.bad a0_0 ((l0_1.length : Int) - 1))))
def network_Check.f (a0_0 : Int) (l0_1 : List S46) (l0_2 : List S31) : Option Bool := some (network_Check.b a0_0 l0_1 l0_2)
set_option maxHeartbeats 8000000 in
set_option maxRecDepth 100000 in
theorem network_Check.calls (a0_0 : Int) (A0_1 : Option Addr) (c0_1 : Nat) (l0_1 : List S46) (A0_2 : Option Addr) (c0_2 : Nat) (l0_2 : List S31) (r : Bool) (w : World) (hr0_1 : Kd.C k46 w A0_1 l0_1.length l0_1) (hc0_1 : l0_1.length ≤ c0_1) (hr0_2 : Kd.C k31 w A0_2 l0_2.length l0_2) (hc0_2 : l0_2.length ≤ c0_2) (h : network_Check.f a0_0 l0_1 l0_2 = some r) :
    Calls Try.prog 12 #[.agg #[.int .i64 a0_0, .slice A0_1 l0_1.length c0_1, .slice A0_2 l0_2.length c0_2]] w fun e w' => e = .returned (.bool r) ∧ Below w.heap.size w w' := by
  have hun := Try.underlying26
  have hmf : ∀ (fn : Fn) (first cap : Array Value) (w : World), (Instr.makeFunc fn first cap).run Try.prog w = .ok (.func fn first cap) w := fun _ _ _ _ => rfl
  have eg : ∀ args w, (callFunc 27 args).run Try.prog w = .ok (.enter 27 args) w := enters_of Try.func27 (by kernel_rfl) rfl
  obtain rfl := Option.some.inj h
  clear h
  unfold network_Check.b
  have HB := Aside0.mk (Below.refl w.heap.size w)
  have h0 := network_within.eq a0_0 2 7200
  cases e0 : (decide (2 ≤ a0_0) && decide (a0_0 ≤ 7200))
  · rw [e0] at h0; simp only [Bool.false_and]
    clear e0
    go_enter Try.func12, Try.ntmps12
    go_wp2_with (go_at_call 25; (with_reducible refine (network_within.calls _ _ _ _ _ h0).mono ?_); rintro e w' ⟨rfl, ⟨nd, rfl⟩⟩)
    go_ret
    exact ⟨rfl, by repeat (first | (with_reducible first | exact HB.out | apply below_alloc | apply pw_below_drewN | apply below_drew1) | exact HB.out)⟩
  · rw [e0] at h0; simp only [Bool.true_and]
    clear e0
    by_cases h1 : l0_1.length ≤ 48
    · rw [decide_eq_true h1]; simp only [Bool.true_and]
      have h1b : decide ((48 : Int) < (l0_1.length : Int)) = false := decide_eq_false (by omega)
      have h1c : decide (48 < l0_1.length) = false := decide_eq_false (by omega)
      by_cases h2 : l0_2.length ≤ 512
      · rw [decide_eq_true h2]; simp only [Bool.true_and]
        have h2b : decide ((512 : Int) < (l0_2.length : Int)) = false := decide_eq_false (by omega)
        have h2c : decide (512 < l0_2.length) = false := decide_eq_false (by omega)
        have key : ∀ (W : World) (g3 g1 : Nat), Below w.heap.size w W → g3 < W.heap.size → g1 < W.heap.size → W.cell? ⟨g3, 0, none⟩ = some (.int .i64 ((l0_1.length : Int) - 1)) → W.cell? ⟨g1, 0, none⟩ = some (.int .i64 a0_0) →
            Calls Try.prog 26 #[.slice A0_2 l0_2.length c0_2, .func (.func 27) #[] #[.pointer (some ⟨g3, 0, none⟩), .pointer (some ⟨g1, 0, none⟩)]] W fun e w' => e = .returned (.bool (l0_2.any (network_Check.bad a0_0 ((l0_1.length : Int) - 1)))) ∧ Below w.heap.size w w' := by
          intro W g3 g1 hW hg3 hg1 hl hp
          refine (act_ContainsFunc (network_Check.bad a0_0 ((l0_1.length : Int) - 1)) 27 #[.pointer (some ⟨g3, 0, none⟩), .pointer (some ⟨g1, 0, none⟩)] A0_2 c0_2 l0_2 W W (Below.refl _ _) eg (fun x V _ hV => ?_) (Kd.C_below hr0_2 hW)).mono ?_
          · exact (network_Check.closure a0_0 ((l0_1.length : Int) - 1) x g3 g1 W V hV hg3 hg1 hl hp)
          · rintro e w' ⟨rfl, hb⟩
            exact ⟨rfl, hW.trans (hb.mono hW.size)⟩
        have K := Aside0.mk key
        clear key
        generalize hany : l0_2.any (network_Check.bad a0_0 ((l0_1.length : Int) - 1)) = b at K
        clear hany
        go_enter Try.func12, Try.ntmps12
        go_wp2_with (first | (go_at_call 25; (with_reducible refine (network_within.calls _ _ _ _ _ h0).mono ?_); rintro e w' ⟨rfl, ⟨nd, rfl⟩⟩))
        refine (K.out _ _ _ (by repeat (first | (with_reducible first | exact HB.out | apply below_alloc | apply pw_below_drewN | apply below_drew1) | exact HB.out)) (by first | (simp; done) | (simp; omega)) (by first | (simp; done) | (simp; omega)) (by first | (go_simp; done) | (simp; done)) (by first | (go_simp; done) | (simp; done))).mono ?_
        rintro e w' ⟨rfl, hb⟩
        go_wp2
        go_ret
        exact ⟨rfl, hb⟩
      · rw [decide_eq_false h2]; simp only [Bool.false_and]
        have h2b : decide ((512 : Int) < (l0_2.length : Int)) = true := decide_eq_true (by omega)
        have h2c : decide (512 < l0_2.length) = true := decide_eq_true (by omega)
        go_enter Try.func12, Try.ntmps12
        go_wp2_with (go_at_call 25; (with_reducible refine (network_within.calls _ _ _ _ _ h0).mono ?_); rintro e w' ⟨rfl, ⟨nd, rfl⟩⟩)
        go_ret
        exact ⟨rfl, by repeat (first | (with_reducible first | exact HB.out | apply below_alloc | apply pw_below_drewN | apply below_drew1) | exact HB.out)⟩
    · rw [decide_eq_false h1]; simp only [Bool.false_and]
      have h1b : decide ((48 : Int) < (l0_1.length : Int)) = true := decide_eq_true (by omega)
      have h1c : decide (48 < l0_1.length) = true := decide_eq_true (by omega)
      go_enter Try.func12, Try.ntmps12
      go_wp2_with (go_at_call 25; (with_reducible refine (network_within.calls _ _ _ _ _ h0).mono ?_); rintro e w' ⟨rfl, ⟨nd, rfl⟩⟩)
      go_ret
      exact ⟨rfl, by repeat (first | (with_reducible first | exact HB.out | apply below_alloc | apply pw_below_drewN | apply below_drew1) | exact HB.out)⟩


/-! ### railplanlaw11_small: function 19 -/
def railplanlaw11_small.f  : Option (Int × (List (S46)) × (List (S31))) := some (10, (([(⟨1, 0, 0⟩ : S46), (⟨2, 0, 0⟩ : S46)] : List (S46))), (([(⟨1, 0, 1, 3, 5, 2⟩ : S31)] : List (S31))))
set_option maxHeartbeats 8000000 in
set_option maxRecDepth 100000 in
theorem railplanlaw11_small.calls  (r1 : Int) (r2 : List (S46)) (r3 : List (S31)) (w : World) (h : railplanlaw11_small.f  = some (r1, r2, r3)) :
    Calls Try.prog 19 #[] w fun e w' => ∃ v1_ v2_ : Value, e = .returned (.agg #[.int .i64 r1, v1_, v2_]) ∧ Kd.R k46 46 w' w.heap.size (fun _ => True) v1_ r2 ∧ Kd.R k31 31 w' w.heap.size (fun _ => True) v2_ r3 ∧ Below w.heap.size w w' := by
  have hu26 := Try.underlying26
  have hu46 := Try.underlying46
  have hu31 := Try.underlying31
  have HB := Aside0.mk (Below.refl w.heap.size w)
  have H : (some (10, (([(⟨1, 0, 0⟩ : S46), (⟨2, 0, 0⟩ : S46)] : List (S46))), (([(⟨1, 0, 1, 3, 5, 2⟩ : S31)] : List (S31))))) = some (r1, r2, r3) := h
  clear h
  obtain ⟨y141, hy141⟩ : ∃ y_ : List (S46), y_ = (([(⟨1, 0, 0⟩ : S46), (⟨2, 0, 0⟩ : S46)] : List (S46))) := ⟨_, rfl⟩
  replace H : (some (10, y141, (([(⟨1, 0, 1, 3, 5, 2⟩ : S31)] : List (S31))))) = some (r1, r2, r3) := by first | (rw [hy141]; with_reducible exact H) | (have H2_ := (Option.bind_some _ _).symm.trans H; rw [hy141]; with_reducible exact H2_) | (have H2_ := (Option.bind_some _ _).symm.trans H; with_reducible exact H2_) | with_reducible exact H | (rw [hy141]; exact H) | exact H
  have Ny141 := Aside0.mk hy141
  clear hy141
  obtain ⟨y144, hy144⟩ : ∃ y_ : List (S31), y_ = (([(⟨1, 0, 1, 3, 5, 2⟩ : S31)] : List (S31))) := ⟨_, rfl⟩
  replace H : (some (10, y141, y144)) = some (r1, r2, r3) := by first | (rw [hy144]; with_reducible exact H) | (have H2_ := (Option.bind_some _ _).symm.trans H; rw [hy144]; with_reducible exact H2_) | (have H2_ := (Option.bind_some _ _).symm.trans H; with_reducible exact H2_) | with_reducible exact H | (rw [hy144]; exact H) | exact H
  have Ny144 := Aside0.mk hy144
  clear hy144
  simp only [Option.some.injEq, Prod.mk.injEq] at H
  obtain ⟨rfl, rfl, rfl⟩ := H
  go_enter Try.func19, Try.ntmps19
  go_wp2_with (first | ((with_reducible refine gate_dst (N := 0) rfl ?_); refine box_event ?hg (N := 0) ?hd (cs := #[.int .i64 0, .slice none 0 0, .slice none 0 0]) (t := 26) ?hr ?_; (case hd => rfl); (case hg => rfl); (case hr => first | (go_simp; done) | (go_simp; rfl)); intro gb140 hg w1 hbox hb; have n0_ := Aside0.mk (below_step (by repeat (first | (with_reducible first | exact HB.out | apply below_alloc | apply pw_below_drewN | apply below_drew1) | exact HB.out)) hb); have n1_ := Aside0.mk (hbox); have n2_ := Aside0.mk ((by rw [hg]; exact (below_size (by repeat (first | (with_reducible first | exact HB.out | apply below_alloc | apply pw_below_drewN | apply below_drew1) | exact HB.out))) : w.heap.size ≤ gb140)); have n3_ := Aside0.mk ((by rw [hg]; exact (below_size (by repeat (first | (with_reducible first | exact HB.out | apply below_alloc | apply pw_below_drewN | apply below_drew1) | exact HB.out))) : w.heap.size ≤ gb140)); clear HB; have HB := n0_; have BK140 := n1_; have GW140 := n2_; have GE140 := n3_; clear n0_ n1_ n2_ n3_; clear hb hbox hg) | ((with_reducible refine gate_dst (N := 3) rfl ?_); refine Kd.R_lit k46 _ 46 ?hg (N := 3) ?hd (xs := ([(⟨1, 0, 0⟩ : S46), (⟨2, 0, 0⟩ : S46)] : List (S46))) (inner := [.int .i64 1, .int .i64 0, .int .i64 0, .int .i64 2, .int .i64 0, .int .i64 0]) (ok := fun _ => True) (okp := fun _ => True) ?hr ?hp (fun _ hk => hk) trivial (Below.refl _ _) (Nat.le_refl _) (by simp) ?_; (case hd => rfl); (case hg => rfl); (case hr => first | (go_simp; done) | (go_simp; rfl)); (case hp => exact (Reps.c3 (show Kd.M k46 _ _ _ (⟨1, 0, 0⟩ : S46) [.int .i64 1, .int .i64 0, .int .i64 0] from (k46_mkM _ _ _ (⟨1, 0, 0⟩ : S46) )) (Reps.c3 (show Kd.M k46 _ _ _ (⟨2, 0, 0⟩ : S46) [.int .i64 2, .int .i64 0, .int .i64 0] from (k46_mkM _ _ _ (⟨2, 0, 0⟩ : S46) )) (Reps.none _ _)))); intro v142 w2 ho3 hb hg_ hnew_; clear hg_ hnew_; (first | rw [← Ny141.out] at ho3 | (simp only [Int.reduceToNat] at ho3; rw [← Ny141.out] at ho3)); have n0_ := Aside0.mk (Kd.R_lower ho3 (below_size (by repeat (first | (with_reducible first | exact HB.out | apply below_alloc | apply pw_below_drewN | apply below_drew1 | refine below_set ?_ GE140.out) | exact HB.out)))); have n1_ := Aside0.mk (blk_below (g := gb140) (o := .cells #[.int .i64 0, .slice none 0 0, .slice none 0 0] 26 (0, 0)) (by (with_reducible repeat (first | refine blk_drewN ?_ _ | refine blk_drew ?_ | refine blk_alloc ?_ _)); exact BK140.out) hb); have n2_ := Aside0.mk (below_step (by repeat (first | (with_reducible first | exact HB.out | apply below_alloc | apply pw_below_drewN | apply below_drew1 | refine below_set ?_ GE140.out) | exact HB.out)) hb); clear BK140; clear HB; have HO143 := n0_; have BK140 := n1_; have HB := n2_; clear n0_ n1_ n2_; clear hb ho3) | ((with_reducible refine gate_dst (N := 5) rfl ?_); refine Kd.R_lit k31 _ 31 ?hg (N := 5) ?hd (xs := ([(⟨1, 0, 1, 3, 5, 2⟩ : S31)] : List (S31))) (inner := [.int .i64 1, .int .i64 0, .int .i64 1, .int .i64 3, .int .i64 5, .int .i64 2]) (ok := fun _ => True) (okp := fun _ => True) ?hr ?hp (fun _ hk => hk) trivial (Below.refl _ _) (Nat.le_refl _) (by simp) ?_; (case hd => rfl); (case hg => rfl); (case hr => first | (go_simp; done) | (go_simp; rfl)); (case hp => exact (Reps.c6 (show Kd.M k31 _ _ _ (⟨1, 0, 1, 3, 5, 2⟩ : S31) [.int .i64 1, .int .i64 0, .int .i64 1, .int .i64 3, .int .i64 5, .int .i64 2] from (k31_mkM _ _ _ (⟨1, 0, 1, 3, 5, 2⟩ : S31) )) (Reps.none _ _))); intro v145 w4 ho5 hb hg_ hnew_; clear hg_ hnew_; (first | rw [← Ny144.out] at ho5 | (simp only [Int.reduceToNat] at ho5; rw [← Ny144.out] at ho5)); have n0_ := Aside0.mk (Kd.R_below (by (with_reducible repeat (first | apply Kd.R_alloc | apply Kd.R_drewN | apply Kd.R_drew)); exact HO143.out) hb); have n1_ := Aside0.mk (Kd.R_lower ho5 (below_size (by repeat (first | (with_reducible first | exact HB.out | apply below_alloc | apply pw_below_drewN | apply below_drew1 | refine below_set ?_ GE140.out) | exact HB.out)))); have n2_ := Aside0.mk (blk_below (g := gb140) (o := .cells #[.int .i64 0, .slice none 0 0, .slice none 0 0] 26 (0, 0)) (by (with_reducible repeat (first | refine blk_drewN ?_ _ | refine blk_drew ?_ | refine blk_alloc ?_ _)); exact BK140.out) hb); have n3_ := Aside0.mk (below_step (by repeat (first | (with_reducible first | exact HB.out | apply below_alloc | apply pw_below_drewN | apply below_drew1 | refine below_set ?_ GE140.out) | exact HB.out)) hb); clear HO143; clear BK140; clear HB; have HO143 := n0_; have HO146 := n1_; have BK140 := n2_; have HB := n3_; clear n0_ n1_ n2_ n3_; clear hb ho5; obtain ⟨Ao6, co6, eo6⟩ := Kd.R_slice HO146.out; subst eo6; obtain ⟨Ao7, co7, eo7⟩ := Kd.R_slice HO143.out; subst eo7; have hcz8_0 : w4.cell? ⟨gb140, 0, none⟩ = some (.int .i64 0) := (blk_cell BK140.out 0).trans rfl; have hcz8_1 : w4.cell? ⟨gb140, 1, none⟩ = some (.slice none 0 0) := (blk_cell BK140.out 1).trans rfl; have hcz8_2 : w4.cell? ⟨gb140, 2, none⟩ = some (.slice none 0 0) := (blk_cell BK140.out 2).trans rfl; have hfz8_0 := blk_frozen BK140.out 0; have hfz8_1 := blk_frozen BK140.out 1; have hfz8_2 := blk_frozen BK140.out 2))
  refine bodyPost_ret (results_cell_row rfl _ _ gb140 26 #[.int .i64 10, .slice Ao7 y141.length co7, .slice Ao6 y144.length co6] (0, 0) _ rfl (by (with_reducible repeat (first | refine blk_drewN ?_ _ | refine blk_drew ?_ | refine blk_alloc ?_ _)); refine blk_put (cs := #[.int .i64 10, .slice Ao7 y141.length co7, .slice none 0 0]) ?_ 2 _ rfl; (with_reducible repeat (first | refine blk_drewN ?_ _ | refine blk_drew ?_ | refine blk_alloc ?_ _)); refine blk_put (cs := #[.int .i64 10, .slice none 0 0, .slice none 0 0]) ?_ 1 _ rfl; (with_reducible repeat (first | refine blk_drewN ?_ _ | refine blk_drew ?_ | refine blk_alloc ?_ _)); refine blk_put (cs := #[.int .i64 0, .slice none 0 0, .slice none 0 0]) ?_ 0 _ rfl; (with_reducible repeat (first | refine blk_drewN ?_ _ | refine blk_drew ?_ | refine blk_alloc ?_ _)); exact BK140.out) Try.underlying26 rfl (by kernel_rfl)) rfl ?_
  exact ⟨_, _, by first | rfl | (simp [errW_none, errW_some] <;> rfl) | (simp [*, errW_none, errW_some] <;> rfl), by (with_reducible repeat (first | apply Kd.R_alloc | apply Kd.R_drewN | apply Kd.R_drew)); exact Kd.R_mono (Kd.R_far (p := ⟨gb140, 2, none⟩) (Kd.R_far (p := ⟨gb140, 1, none⟩) (Kd.R_far (p := ⟨gb140, 0, none⟩) (Kd.R_types HO143.out BK140.out (by decide)) (fun _ hk => hk.2) (.int .i64 10)) (fun _ hk => hk.2) (.slice Ao7 y141.length co7)) (fun _ hk => hk.2) (.slice Ao6 y144.length co6)) (fun _ hk => trivial), by (with_reducible repeat (first | apply Kd.R_alloc | apply Kd.R_drewN | apply Kd.R_drew)); exact Kd.R_mono (Kd.R_far (p := ⟨gb140, 2, none⟩) (Kd.R_far (p := ⟨gb140, 1, none⟩) (Kd.R_far (p := ⟨gb140, 0, none⟩) (Kd.R_types HO146.out BK140.out (by decide)) (fun _ hk => hk.2) (.int .i64 10)) (fun _ hk => hk.2) (.slice Ao7 y141.length co7)) (fun _ hk => hk.2) (.slice Ao6 y144.length co6)) (fun _ hk => trivial), by repeat (first | (with_reducible first | exact HB.out | apply below_alloc | apply pw_below_drewN | apply below_drew1 | refine below_set ?_ GE140.out) | exact HB.out)⟩

-- NOT PRINTED: function 44 (slices_IndexFunc_int_int)

-- NOT PRINTED: function 40 (slices_ContainsFunc_int_int)

/-! ### network_Good: function 29 -/

theorem network_Good.closure (per : Int) (x : Int) (g1 : Nat) (w W : World) (hb : Below w.heap.size w W) (hg1 : g1 < w.heap.size) (hp : w.cell? ⟨g1, 0, none⟩ = some (.int .i64 per)) (h1 : 2 ≤ per) (h2 : per ≤ 7200) :
    Calls Try.prog 41 #[.int .i64 x, .pointer (some ⟨g1, 0, none⟩)] W fun e w' => e = .returned (.bool (!(decide (0 ≤ x) && decide (x ≤ per - 1)))) ∧ Below w.heap.size w w' := by
  replace hp : W.cell? ⟨g1, 0, none⟩ = some (.int .i64 per) := (hb.cell (p := ⟨g1, 0, none⟩) hg1).trans hp
  have hs := hb.size
  have ha1 : g1 < W.heap.size := Nat.lt_of_lt_of_le hg1 hs
  have hun := Try.underlying26
  have h0 := network_within.eq x 0 (per - 1)
  generalize (decide (0 ≤ x) && decide (x ≤ per - 1)) = b at h0 ⊢
  go_enter Try.func41, Try.ntmps41
  go_wp2_with (go_at_call 25; (with_reducible refine (network_within.calls _ _ _ _ _ h0).mono ?_); rintro e w' ⟨rfl, ⟨nd, rfl⟩⟩)
  go_ret
  exact ⟨rfl, by repeat (first | (with_reducible first | exact hb | apply pw_below_drewN | apply below_drew1) | exact hb)⟩
def network_Good.b (a0_0 : Int) (l0_1 : List S46) (l0_2 : List S31) (l1 : List Int) : Bool :=
  network_Check.b a0_0 l0_1 l0_2 && decide (l1.length = l0_1.length) && !(l1.any (fun x => !(decide (0 ≤ x) && decide (x ≤ a0_0 - 1))))
def network_Good.f (a0_0 : Int) (l0_1 : List S46) (l0_2 : List S31) (l1 : List Int) : Option Bool := some (network_Good.b a0_0 l0_1 l0_2 l1)
set_option maxHeartbeats 8000000 in
set_option maxRecDepth 100000 in
theorem network_Good.calls (a0_0 : Int) (A0_1 : Option Addr) (c0_1 : Nat) (l0_1 : List S46) (A0_2 : Option Addr) (c0_2 : Nat) (l0_2 : List S31) (A1 : Option Addr) (c1 : Nat) (l1 : List Int) (r : Bool) (w : World) (hr0_1 : Kd.C k46 w A0_1 l0_1.length l0_1) (hc0_1 : l0_1.length ≤ c0_1) (hr0_2 : Kd.C k31 w A0_2 l0_2.length l0_2) (hc0_2 : l0_2.length ≤ c0_2) (hr1 : Kd.C (Kd.int .i64) w A1 l1.length l1) (hc1 : l1.length ≤ c1) (h : network_Good.f a0_0 l0_1 l0_2 l1 = some r) :
    Calls Try.prog 29 #[.agg #[.int .i64 a0_0, .slice A0_1 l0_1.length c0_1, .slice A0_2 l0_2.length c0_2], .slice A1 l1.length c1] w fun e w' => e = .returned (.bool r) ∧ Below w.heap.size w w' := by
  have hun := Try.underlying26
  have hmf : ∀ (fn : Fn) (first cap : Array Value) (w : World), (Instr.makeFunc fn first cap).run Try.prog w = .ok (.func fn first cap) w := fun _ _ _ _ => rfl
  have eg : ∀ args w, (callFunc 41 args).run Try.prog w = .ok (.enter 41 args) w := enters_of Try.func41 (by kernel_rfl) rfl
  obtain rfl := Option.some.inj h
  clear h
  unfold network_Good.b
  have hck : ∀ (W : World), Below w.heap.size w W → Calls Try.prog 12 #[.agg #[.int .i64 a0_0, .slice A0_1 l0_1.length c0_1, .slice A0_2 l0_2.length c0_2]] W fun e w' => e = .returned (.bool (network_Check.b a0_0 l0_1 l0_2)) ∧ Below W.heap.size W w' :=
    fun W hW => network_Check.calls a0_0 A0_1 c0_1 l0_1 A0_2 c0_2 l0_2 _ W (Kd.C_below hr0_1 hW) hc0_1 (Kd.C_below hr0_2 hW) hc0_2 rfl
  have hper : network_Check.b a0_0 l0_1 l0_2 = true → 2 ≤ a0_0 ∧ a0_0 ≤ 7200 := fun h => by
    unfold network_Check.b at h; simp only [Bool.and_eq_true, decide_eq_true_eq] at h; exact ⟨h.1.1.1.1, h.1.1.1.2⟩
  have HB := Aside0.mk (Below.refl w.heap.size w)
  generalize network_Check.b a0_0 l0_1 l0_2 = b at hck hper
  have KC := Aside0.mk hck
  clear hck
  cases b
  · simp only [Bool.false_and]
    go_enter Try.func29, Try.ntmps29
    go_wp2_with (go_at_call 12; refine (KC.out _ (by repeat (first | (with_reducible first | exact HB.out | apply below_alloc | apply pw_below_drewN | apply below_drew1) | exact HB.out))).mono ?_; rintro e w' ⟨rfl, hb⟩)
    go_ret
    exact ⟨rfl, ((Below.refl _ _).alloc (Nat.le_refl _) _).trans (hb.mono (by simp))⟩
  · simp only [Bool.true_and]
    obtain ⟨hp1, hp2⟩ := hper rfl
    clear hper
    by_cases h1 : l1.length = l0_1.length
    · rw [decide_eq_true h1]; simp only [Bool.true_and]
      have h1b : ((l1.length : Int) == (l0_1.length : Int)) = true := by simp [h1]
      have h1c : (l1.length == l0_1.length) = true := by simp [h1]
      have key : ∀ (W W2 : World) (g1 : Nat), Below w.heap.size w W → g1 < W.heap.size → W.cell? ⟨g1, 0, none⟩ = some (.int .i64 a0_0) → Below W.heap.size W W2 →
          Calls Try.prog 40 #[.slice A1 l1.length c1, .func (.func 41) #[] #[.pointer (some ⟨g1, 0, none⟩)]] W2 fun e w' => e = .returned (.bool (l1.any (fun x => !(decide (0 ≤ x) && decide (x ≤ a0_0 - 1))))) ∧ Below w.heap.size w w' := by
        intro W W2 g1 hW hg1 hp hW2
        refine (int_ContainsFunc (fun x => !(decide (0 ≤ x) && decide (x ≤ a0_0 - 1))) 41 #[.pointer (some ⟨g1, 0, none⟩)] A1 c1 l1 W W2 hW2 eg (fun x V _ hV => ?_) (Kd.C_below hr1 hW)).mono ?_
        · exact network_Good.closure a0_0 x g1 W V hV hg1 hp hp1 hp2
        · rintro e w' ⟨rfl, hb⟩
          exact ⟨rfl, hW.trans (hb.mono hW.size)⟩
      have K := Aside0.mk key
      clear key
      generalize hany : l1.any (fun x => !(decide (0 ≤ x) && decide (x ≤ a0_0 - 1))) = b at K
      clear hany h1
      go_enter Try.func29, Try.ntmps29
      go_wp2_with (go_at_call 12; refine (KC.out _ (by repeat (first | (with_reducible first | exact HB.out | apply below_alloc | apply pw_below_drewN | apply below_drew1) | exact HB.out))).mono ?_; rintro e w' ⟨rfl, hb⟩; obtain ⟨hc1_, hf1_⟩ := bcell_ hb)
      refine (K.out _ _ _ (by repeat (first | (with_reducible first | exact HB.out | apply below_alloc | apply pw_below_drewN | apply below_drew1) | exact HB.out)) (by simp) (by simp) hb).mono ?_
      rintro e w' ⟨rfl, hb2⟩
      go_wp2
      go_ret
      exact ⟨rfl, hb2⟩
    · rw [decide_eq_false h1]; simp only [Bool.false_and]
      have h1b : ((l1.length : Int) == (l0_1.length : Int)) = false := by simp; omega
      have h1c : (l1.length == l0_1.length) = false := by simp [h1]
      go_enter Try.func29, Try.ntmps29
      go_wp2_with (go_at_call 12; refine (KC.out _ (by repeat (first | (with_reducible first | exact HB.out | apply below_alloc | apply pw_below_drewN | apply below_drew1) | exact HB.out))).mono ?_; rintro e w' ⟨rfl, hb⟩; obtain ⟨hc1_, hf1_⟩ := bcell_ hb)
      go_ret
      exact ⟨rfl, ((Below.refl _ _).alloc (Nat.le_refl _) _).trans (hb.mono (by simp))⟩


end Go.Proofs.Ytapnkefhihgbbaa.PAll
