/- What calls of the Go functions below do, each under the premises that its theorem states. Laid by a program of the claimant, which drives the kit's print; some texts are written by hand. -/
import Derived.Test.YtapnkefhihgbbaaPAllx0
import Derived.Test.YtapnkefhihgbbaaPAllxf12
import Derived.Test.YtapnkefhihgbbaaPAllxf25
import Derived.Test.YtapnkefhihgbbaaPAllxpre
namespace Go.Proofs.Ytapnkefhihgbbaa.PAll
open Go.RowKit Go.Proofs.YtapnkefhihgbbaaW.PrintWords Go.Proofs.YtapnkefhihgbbaaW.PrintLast Go.Proofs.YtapnkefhihgbbaaW.PrintMore
attribute [local go_sem] max2_int min2_int max_two min_two max_three min_three max_four min_four   -- for this text's walks alone
set_option linter.unusedVariables false
set_option linter.unusedSimpArgs false

/-! ### network_Good: function 29 -/

theorem network_Good.closure (per : Int) (x : Int) (g1 : Nat) (w W : World) (hb : Below w.heap.size w W) (hg1 : g1 < w.heap.size) (hp : w.cell? ⟨g1, 0, none⟩ = some (.int .i64 per)) (h1 : 2 ≤ per) (h2 : per ≤ 7200) :
    Calls Try.prog 41 #[.int .i64 x, .pointer (some ⟨g1, 0, none⟩)] W fun e w' => e = .returned (.bool (!(decide (0 ≤ x) && decide (x ≤ per - 1)))) ∧ Below w.heap.size w w' := by
  replace hp : W.cell? ⟨g1, 0, none⟩ = some (.int .i64 per) := (hb.cell (p := ⟨g1, 0, none⟩) hg1).trans hp
  have hs := hb.size
  have ha1 : g1 < W.heap.size := Nat.lt_of_lt_of_le hg1 hs
  have hun := Try.underlying26
  have h0 := network_within.eq x 0 (per - 1)
  generalize (decide (0 ≤ x) && decide (x ≤ per - 1)) = b at h0 ⊢
  go_enter Try.func41, Try.ntmps41
  go_wp2_with (go_at_call 25; (with_reducible refine (network_within.calls _ _ _ _ _ h0).mono ?_); rintro e w' ⟨rfl, ⟨nd, rfl⟩⟩)
  go_ret
  exact ⟨rfl, by repeat (first | (with_reducible first | exact hb | apply pw_below_drewN | apply below_drew1) | exact hb)⟩
def network_Good.b (a0_0 : Int) (l0_1 : List S46) (l0_2 : List S31) (l1 : List Int) : Bool :=
  network_Check.b a0_0 l0_1 l0_2 && decide (l1.length = l0_1.length) && !(l1.any (fun x => !(decide (0 ≤ x) && decide (x ≤ a0_0 - 1))))
def network_Good.f (a0_0 : Int) (l0_1 : List S46) (l0_2 : List S31) (l1 : List Int) : Option Bool := some (network_Good.b a0_0 l0_1 l0_2 l1)
set_option maxHeartbeats 8000000 in
set_option maxRecDepth 100000 in
theorem network_Good.calls (a0_0 : Int) (A0_1 : Option Addr) (c0_1 : Nat) (l0_1 : List S46) (A0_2 : Option Addr) (c0_2 : Nat) (l0_2 : List S31) (A1 : Option Addr) (c1 : Nat) (l1 : List Int) (r : Bool) (w : World) (hr0_1 : Kd.C k46 w A0_1 l0_1.length l0_1) (hc0_1 : l0_1.length ≤ c0_1) (hr0_2 : Kd.C k31 w A0_2 l0_2.length l0_2) (hc0_2 : l0_2.length ≤ c0_2) (hr1 : Kd.C (Kd.int .i64) w A1 l1.length l1) (hc1 : l1.length ≤ c1) (h : network_Good.f a0_0 l0_1 l0_2 l1 = some r) :
    Calls Try.prog 29 #[.agg #[.int .i64 a0_0, .slice A0_1 l0_1.length c0_1, .slice A0_2 l0_2.length c0_2], .slice A1 l1.length c1] w fun e w' => e = .returned (.bool r) ∧ Below w.heap.size w w' := by
  have hun := Try.underlying26
  have hmf : ∀ (fn : Fn) (first cap : Array Value) (w : World), (Instr.makeFunc fn first cap).run Try.prog w = .ok (.func fn first cap) w := fun _ _ _ _ => rfl
  have eg : ∀ args w, (callFunc 41 args).run Try.prog w = .ok (.enter 41 args) w := enters_of Try.func41 (by kernel_rfl) rfl
  obtain rfl := Option.some.inj h
  clear h
  unfold network_Good.b
  have hck : ∀ (W : World), Below w.heap.size w W → Calls Try.prog 12 #[.agg #[.int .i64 a0_0, .slice A0_1 l0_1.length c0_1, .slice A0_2 l0_2.length c0_2]] W fun e w' => e = .returned (.bool (network_Check.b a0_0 l0_1 l0_2)) ∧ Below W.heap.size W w' :=
    fun W hW => network_Check.calls a0_0 A0_1 c0_1 l0_1 A0_2 c0_2 l0_2 _ W (Kd.C_below hr0_1 hW) hc0_1 (Kd.C_below hr0_2 hW) hc0_2 rfl
  have hper : network_Check.b a0_0 l0_1 l0_2 = true → 2 ≤ a0_0 ∧ a0_0 ≤ 7200 := fun h => by
    unfold network_Check.b at h; simp only [Bool.and_eq_true, decide_eq_true_eq] at h; exact ⟨h.1.1.1.1, h.1.1.1.2⟩
  have HB := Aside0.mk (Below.refl w.heap.size w)
  generalize network_Check.b a0_0 l0_1 l0_2 = b at hck hper
  have KC := Aside0.mk hck
  clear hck
  cases b
  · simp only [Bool.false_and]
    go_enter Try.func29, Try.ntmps29
    go_wp2_with (go_at_call 12; refine (KC.out _ (by repeat (first | (with_reducible first | exact HB.out | apply below_alloc | apply pw_below_drewN | apply below_drew1) | exact HB.out))).mono ?_; rintro e w' ⟨rfl, hb⟩)
    go_ret
    exact ⟨rfl, ((Below.refl _ _).alloc (Nat.le_refl _) _).trans (hb.mono (by simp))⟩
  · simp only [Bool.true_and]
    obtain ⟨hp1, hp2⟩ := hper rfl
    clear hper
    by_cases h1 : l1.length = l0_1.length
    · rw [decide_eq_true h1]; simp only [Bool.true_and]
      have h1b : ((l1.length : Int) == (l0_1.length : Int)) = true := by simp [h1]
      have h1c : (l1.length == l0_1.length) = true := by simp [h1]
      have key : ∀ (W W2 : World) (g1 : Nat), Below w.heap.size w W → g1 < W.heap.size → W.cell? ⟨g1, 0, none⟩ = some (.int .i64 a0_0) → Below W.heap.size W W2 →
          Calls Try.prog 40 #[.slice A1 l1.length c1, .func (.func 41) #[] #[.pointer (some ⟨g1, 0, none⟩)]] W2 fun e w' => e = .returned (.bool (l1.any (fun x => !(decide (0 ≤ x) && decide (x ≤ a0_0 - 1))))) ∧ Below w.heap.size w w' := by
        intro W W2 g1 hW hg1 hp hW2
        refine (int_ContainsFunc (fun x => !(decide (0 ≤ x) && decide (x ≤ a0_0 - 1))) 41 #[.pointer (some ⟨g1, 0, none⟩)] A1 c1 l1 W W2 hW2 eg (fun x V _ hV => ?_) (Kd.C_below hr1 hW)).mono ?_
        · exact network_Good.closure a0_0 x g1 W V hV hg1 hp hp1 hp2
        · rintro e w' ⟨rfl, hb⟩
          exact ⟨rfl, hW.trans (hb.mono hW.size)⟩
      have K := Aside0.mk key
      clear key
      generalize hany : l1.any (fun x => !(decide (0 ≤ x) && decide (x ≤ a0_0 - 1))) = b at K
      clear hany h1
      go_enter Try.func29, Try.ntmps29
      go_wp2_with (go_at_call 12; refine (KC.out _ (by repeat (first | (with_reducible first | exact HB.out | apply below_alloc | apply pw_below_drewN | apply below_drew1) | exact HB.out))).mono ?_; rintro e w' ⟨rfl, hb⟩; obtain ⟨hc1_, hf1_⟩ := bcell_ hb)
      refine (K.out _ _ _ (by repeat (first | (with_reducible first | exact HB.out | apply below_alloc | apply pw_below_drewN | apply below_drew1) | exact HB.out)) (by simp) (by simp) hb).mono ?_
      rintro e w' ⟨rfl, hb2⟩
      go_wp2
      go_ret
      exact ⟨rfl, hb2⟩
    · rw [decide_eq_false h1]; simp only [Bool.false_and]
      have h1b : ((l1.length : Int) == (l0_1.length : Int)) = false := by simp; omega
      have h1c : (l1.length == l0_1.length) = false := by simp [h1]
      go_enter Try.func29, Try.ntmps29
      go_wp2_with (go_at_call 12; refine (KC.out _ (by repeat (first | (with_reducible first | exact HB.out | apply below_alloc | apply pw_below_drewN | apply below_drew1) | exact HB.out))).mono ?_; rintro e w' ⟨rfl, hb⟩; obtain ⟨hc1_, hf1_⟩ := bcell_ hb)
      go_ret
      exact ⟨rfl, ((Below.refl _ _).alloc (Nat.le_refl _) _).trans (hb.mono (by simp))⟩


end Go.Proofs.Ytapnkefhihgbbaa.PAll
