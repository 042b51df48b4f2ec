/- What calls of the Go functions below do, each under the premises that its theorem states. Laid by a program of the claimant, which drives the kit's print; some texts are written by hand. -/
import Derived.Test.YtjbemmngnigaiaaPAllx0
namespace Go.Proofs.Ytjbemmngnigaiaa.PAll
open Go.RowKit Go.Proofs.YtjbemmngnigaiaaW.PrintWords Go.Proofs.YtjbemmngnigaiaaW.PrintLast Go.Proofs.YtjbemmngnigaiaaW.PrintMore
attribute [local go_sem] max2_int min2_int max_two min_two max_three min_three max_four min_four   -- for this text's walks alone
set_option linter.unusedVariables false
set_option linter.unusedSimpArgs false

/-! ### railplanref1_Mod: function 16 -/
def railplanref1_Mod.f (a0 : Int) (a1 : Int) : Option (Int) := if a1 < 1 then (some 0) else (if a1 = 0 then (none) else (if (Int.tmod a0 a1) < 0 then (some (wrap64 ((Int.tmod a0 a1) + a1))) else (some (Int.tmod a0 a1))))
set_option maxHeartbeats 8000000 in
set_option maxRecDepth 100000 in
theorem railplanref1_Mod.calls (a0 : Int) (a1 : Int) (r : Int) (w : World) (h : railplanref1_Mod.f a0 a1 = some r) :
    Calls Try.prog 16 #[.int .i64 a0, .int .i64 a1] w fun e w' => e = .returned (.int .i64 r) ∧ Drawn0 w w' := by
  have H : (if a1 < 1 then (some 0) else (if a1 = 0 then (none) else (if (Int.tmod a0 a1) < 0 then (some (wrap64 ((Int.tmod a0 a1) + a1))) else (some (Int.tmod a0 a1))))) = some r := h
  clear h
  by_cases c3 : a1 < 1
  · rw [if_pos c3] at H
    have c3b0 : decide (a1 < 1) = true := decide_eq_true c3
    clear c3
    obtain rfl := Option.some.inj H
    go_enter Try.func16, Try.ntmps16
    go_wp2
    go_ret
    exact ⟨by first | rfl | (simp; done) | (simp [*]; done), by repeat (first | exact Drawn0.refl _ | apply Drawn0.step)⟩
  · rw [if_neg c3] at H
    have c3b0 : decide (a1 < 1) = false := decide_eq_false c3
    clear c3
    by_cases c4 : a1 = 0
    · rw [if_pos c4] at H
      exact absurd H (by simp)
    · rw [if_neg c4] at H
      have c4b0 : (a1 == 0) = false := beq_eq_false_iff_ne.mpr c4
      have c4b1 : (a1 != 0) = true := bne_iff_ne.mpr c4
      by_cases c5 : (Int.tmod a0 a1) < 0
      · rw [if_pos c5] at H
        have c5b0 : decide ((Int.tmod a0 a1) < 0) = true := decide_eq_true c5
        clear c5
        obtain rfl := Option.some.inj H
        go_enter Try.func16, Try.ntmps16
        go_wp2
        go_ret
        exact ⟨by first | rfl | (simp; done) | (simp [*]; done), by repeat (first | exact Drawn0.refl _ | apply Drawn0.step)⟩
      · rw [if_neg c5] at H
        have c5b0 : decide ((Int.tmod a0 a1) < 0) = false := decide_eq_false c5
        clear c5
        obtain rfl := Option.some.inj H
        go_enter Try.func16, Try.ntmps16
        go_wp2
        go_ret
        exact ⟨by first | rfl | (simp; done) | (simp [*]; done), by repeat (first | exact Drawn0.refl _ | apply Drawn0.step)⟩

/-- The first n uses have their places as trains. -/
def numb : Nat → List S23 → List S23
  | 0, u => u
  | n + 1, u => (numb n u).set n { (numb n u).getD n z23 with f1 := (n : Int) }
theorem numb_length (u : List S23) : ∀ n, (numb n u).length = u.length
  | 0 => rfl
  | n + 1 => by rw [numb, List.length_set, numb_length u n]
theorem store_train {W : World} {base g cap n : Nat} {ok : Nat → Prop} {xs : List S23} (h : Kd.R k23 23 W base ok (.slice (some ⟨g, 0, none⟩) n cap) xs) (i : Nat) (h1 : i < n) (v : Int) :
    Kd.R k23 23 (W.setCell ⟨g, i * 5 + 1, none⟩ (.int .i64 v)) base ok (.slice (some ⟨g, 0, none⟩) n cap) (xs.set i { xs.getD i z23 with f1 := v }) ∧
      (∃ u, W.cell? ⟨g, i * 5 + 1, none⟩ = some u) ∧ W.frozen? ⟨g, i * 5 + 1, none⟩ = false ∧ base ≤ g := by
  obtain ⟨c, hcl, hM, hcc, hfr⟩ := Kd.R_elem h z23 (i : Int) (by omega) (by omega)
  rw [Int.toNat_natCast] at hM hcc hfr
  obtain rfl := k23_openM hM
  have hs := Kd.R_seg h (i : Int) (by omega) (by omega) (seg := [.int .i64 v]) (j := 1) hcl (by rw [Int.toNat_natCast]; exact hcc) (show 1 + 1 ≤ 5 from by decide) (x' := { xs.getD i z23 with f1 := v }) (k23_mkM _ _ _ { xs.getD i z23 with f1 := v }) (fun _ hk => hk)
  rw [Int.toNat_natCast] at hs
  refine ⟨hs.1, ⟨_, hcc 1 _ rfl⟩, hfr 1, ?_⟩
  obtain ⟨g', cap', e, hb, _⟩ := Kd.R_form h (by have := (Kd.R_reads' h).1; omega)
  injection e with e
  injection e with e
  injection e with e
  rw [e]
  exact hb

end Go.Proofs.Ytjbemmngnigaiaa.PAll
