/- What calls of the Go functions below do, each under the premises that its theorem states. Laid by a program of the claimant, which drives the kit's print; some texts are written by hand. -/
import Derived.Test.YtdgdjbehddeepaaPAllx0
import Derived.Test.YtdgdjbehddeepaaPAllxf15
namespace Go.Proofs.Ytdgdjbehddeepaa.PAll
open Go.RowKit Go.Proofs.YtdgdjbehddeepaaW.PrintWords Go.Proofs.YtdgdjbehddeepaaW.PrintLast Go.Proofs.YtdgdjbehddeepaaW.PrintMore
attribute [local go_sem] max2_int min2_int max_two min_two max_three min_three max_four min_four   -- for this text's walks alone
set_option linter.unusedVariables false
set_option linter.unusedSimpArgs false

/-! ### railplanref19_ValidVisits: function 32 -/
mutual
def railplanref19_ValidVisits.j0 : Nat → Int → List (S28) → Bool → Option (Bool)
  | 0, _, _, _ => none
  | k + 1, x0, x1, x14 => if x14 = true then (some false) else (railplanref19_ValidVisits.l0 k x0 x1 (x1.length : Int) 0)
def railplanref19_ValidVisits.l0 : Nat → Int → List (S28) → Int → Int → Option (Bool)
  | 0, _, _, _, _ => none
  | k + 1, x0, x1, x16, x17 => if x17 < x16 then (if 0 ≤ x17 then (if x17 < (x1.length : Int) then ((railplanref19_in.f ((rd_T28 x1 x17).f0) 0 (wrap64 (x0 - 1))).bind fun t168 => (if t168 = true then ((railplanref19_in.f ((rd_T28 x1 x17).f1) 1 x0).bind fun t170 => (if t170 = true then (railplanref19_ValidVisits.j2 k x0 x1 x17 x16 x17 (decide ((((rd_T28 x1 x17).f2).length : Int) > 8))) else (railplanref19_ValidVisits.j2 k x0 x1 x17 x16 x17 true))) else (railplanref19_ValidVisits.j2 k x0 x1 x17 x16 x17 true))) else (none)) else (none)) else (some true)
def railplanref19_ValidVisits.j2 : Nat → Int → List (S28) → Int → Int → Int → Bool → Option (Bool)
  | 0, _, _, _, _, _, _ => none
  | k + 1, x0, x1, x5, x16, x17, x47 => if x47 = true then (some false) else (if 0 ≤ x5 then (if x5 < (x1.length : Int) then (railplanref19_ValidVisits.l1 k x0 x1 x5 x16 x17 (((rd_T28 x1 x5).f2).length : Int) 0) else (none)) else (none))
def railplanref19_ValidVisits.l1 : Nat → Int → List (S28) → Int → Int → Int → Int → Int → Option (Bool)
  | 0, _, _, _, _, _, _, _ => none
  | k + 1, x0, x1, x5, x16, x17, x53, x54 => if x54 < x53 then (if 0 ≤ x5 then (if x5 < (x1.length : Int) then (if 0 ≤ x54 then (if x54 < (((rd_T28 x1 x5).f2).length : Int) then (if (rd ((rd_T28 x1 x5).f2) x54) < 0 then (some false) else (if x54 > 0 then (if 0 ≤ (wrap64 (x54 - 1)) then (if (wrap64 (x54 - 1)) < (((rd_T28 x1 x5).f2).length : Int) then (if (rd ((rd_T28 x1 x5).f2) x54) ≤ (rd ((rd_T28 x1 x5).f2) (wrap64 (x54 - 1))) then (some false) else (railplanref19_ValidVisits.l1 k x0 x1 x5 x16 x17 x53 (wrap64 (x54 + 1)))) else (none)) else (none)) else (railplanref19_ValidVisits.l1 k x0 x1 x5 x16 x17 x53 (wrap64 (x54 + 1))))) else (none)) else (none)) else (none)) else (none)) else (railplanref19_ValidVisits.l0 k x0 x1 x16 (wrap64 (x17 + 1)))
end
def railplanref19_ValidVisits.f (k : Nat) (a0 : Int) (l1 : List (S28)) : Option (Bool) := (railplanref19_in.f a0 2 7200).bind fun t166 => (if t166 = true then (railplanref19_ValidVisits.j0 k a0 l1 (decide ((l1.length : Int) > 16))) else (railplanref19_ValidVisits.j0 k a0 l1 true))
theorem railplanref19_ValidVisits.mono_l : ∀ k, (∀ y0 y1 y2, LeO (railplanref19_ValidVisits.j0 k y0 y1 y2) (railplanref19_ValidVisits.j0 (k + 1) y0 y1 y2)) ∧ (∀ y0 y1 y2 y3, LeO (railplanref19_ValidVisits.l0 k y0 y1 y2 y3) (railplanref19_ValidVisits.l0 (k + 1) y0 y1 y2 y3)) ∧ (∀ y0 y1 y2 y3 y4 y5, LeO (railplanref19_ValidVisits.j2 k y0 y1 y2 y3 y4 y5) (railplanref19_ValidVisits.j2 (k + 1) y0 y1 y2 y3 y4 y5)) ∧ (∀ y0 y1 y2 y3 y4 y5 y6, LeO (railplanref19_ValidVisits.l1 k y0 y1 y2 y3 y4 y5 y6) (railplanref19_ValidVisits.l1 (k + 1) y0 y1 y2 y3 y4 y5 y6))
  | 0 => ⟨fun _ _ _ r h => by simp [railplanref19_ValidVisits.j0] at h, fun _ _ _ _ r h => by simp [railplanref19_ValidVisits.l0] at h, fun _ _ _ _ _ _ r h => by simp [railplanref19_ValidVisits.j2] at h, fun _ _ _ _ _ _ _ r h => by simp [railplanref19_ValidVisits.l1] at h⟩
  | k + 1 => by
    obtain ⟨ih0, ih1, ih2, ih3⟩ := railplanref19_ValidVisits.mono_l k
    refine ⟨?_, ?_, ?_, ?_⟩
    · intro y0 y1 y2
      unfold railplanref19_ValidVisits.j0
      repeat' first
      | (with_reducible exact ih0 _ _ _)
      | (with_reducible exact ih1 _ _ _ _)
      | (with_reducible exact ih2 _ _ _ _ _ _)
      | (with_reducible exact ih3 _ _ _ _ _ _ _)
      | (with_reducible exact LeO.refl _)
      | (with_reducible exact LeO.none _)
      | (with_reducible refine LeO.ite ?_ ?_)
      | (with_reducible refine LeO.bind ?_ (fun _ => ?_))
      | exact ih0 _ _ _
      | exact ih1 _ _ _ _
      | exact ih2 _ _ _ _ _ _
      | exact ih3 _ _ _ _ _ _ _
      | exact LeO.none _
      | refine LeO.ite ?_ ?_
      | refine LeO.bind ?_ (fun _ => ?_)
    · intro y0 y1 y2 y3
      unfold railplanref19_ValidVisits.l0
      repeat' first
      | (with_reducible exact ih0 _ _ _)
      | (with_reducible exact ih1 _ _ _ _)
      | (with_reducible exact ih2 _ _ _ _ _ _)
      | (with_reducible exact ih3 _ _ _ _ _ _ _)
      | (with_reducible exact LeO.refl _)
      | (with_reducible exact LeO.none _)
      | (with_reducible refine LeO.ite ?_ ?_)
      | (with_reducible refine LeO.bind ?_ (fun _ => ?_))
      | exact ih0 _ _ _
      | exact ih1 _ _ _ _
      | exact ih2 _ _ _ _ _ _
      | exact ih3 _ _ _ _ _ _ _
      | exact LeO.none _
      | refine LeO.ite ?_ ?_
      | refine LeO.bind ?_ (fun _ => ?_)
    · intro y0 y1 y2 y3 y4 y5
      unfold railplanref19_ValidVisits.j2
      repeat' first
      | (with_reducible exact ih0 _ _ _)
      | (with_reducible exact ih1 _ _ _ _)
      | (with_reducible exact ih2 _ _ _ _ _ _)
      | (with_reducible exact ih3 _ _ _ _ _ _ _)
      | (with_reducible exact LeO.refl _)
      | (with_reducible exact LeO.none _)
      | (with_reducible refine LeO.ite ?_ ?_)
      | (with_reducible refine LeO.bind ?_ (fun _ => ?_))
      | exact ih0 _ _ _
      | exact ih1 _ _ _ _
      | exact ih2 _ _ _ _ _ _
      | exact ih3 _ _ _ _ _ _ _
      | exact LeO.none _
      | refine LeO.ite ?_ ?_
      | refine LeO.bind ?_ (fun _ => ?_)
    · intro y0 y1 y2 y3 y4 y5 y6
      unfold railplanref19_ValidVisits.l1
      repeat' first
      | (with_reducible exact ih0 _ _ _)
      | (with_reducible exact ih1 _ _ _ _)
      | (with_reducible exact ih2 _ _ _ _ _ _)
      | (with_reducible exact ih3 _ _ _ _ _ _ _)
      | (with_reducible exact LeO.refl _)
      | (with_reducible exact LeO.none _)
      | (with_reducible refine LeO.ite ?_ ?_)
      | (with_reducible refine LeO.bind ?_ (fun _ => ?_))
      | exact ih0 _ _ _
      | exact ih1 _ _ _ _
      | exact ih2 _ _ _ _ _ _
      | exact ih3 _ _ _ _ _ _ _
      | exact LeO.none _
      | refine LeO.ite ?_ ?_
      | refine LeO.bind ?_ (fun _ => ?_)
theorem railplanref19_ValidVisits.mono : ∀ a0 a1 k, LeO (railplanref19_ValidVisits.f k a0 a1) (railplanref19_ValidVisits.f (k + 1) a0 a1) := by
  intro a0 a1 k
  obtain ⟨ih0, ih1, ih2, ih3⟩ := railplanref19_ValidVisits.mono_l k
  unfold railplanref19_ValidVisits.f
  repeat' first
      | (with_reducible exact ih0 _ _ _)
      | (with_reducible exact ih1 _ _ _ _)
      | (with_reducible exact ih2 _ _ _ _ _ _)
      | (with_reducible exact ih3 _ _ _ _ _ _ _)
      | (with_reducible exact LeO.refl _)
      | (with_reducible exact LeO.none _)
      | (with_reducible refine LeO.ite ?_ ?_)
      | (with_reducible refine LeO.bind ?_ (fun _ => ?_))
      | exact ih0 _ _ _
      | exact ih1 _ _ _ _
      | exact ih2 _ _ _ _ _ _
      | exact ih3 _ _ _ _ _ _ _
      | exact LeO.none _
      | refine LeO.ite ?_ ?_
      | refine LeO.bind ?_ (fun _ => ?_)
set_option maxHeartbeats 8000000 in
set_option maxRecDepth 100000 in
theorem railplanref19_ValidVisits.calls (k : Nat) (a0 : Int) (A1 : Option Addr) (c1 : Nat) (l1 : List (S28)) (r : Bool) (w : World) (hr1 : Kd.C k28 w A1 l1.length l1) (hc1 : l1.length ≤ c1) (h : railplanref19_ValidVisits.f k a0 l1 = some r) :
    Calls Try.prog 32 #[.int .i64 a0, .slice A1 l1.length c1] w fun e w' => e = .returned (.bool r) ∧ Drawn0 w w' := by
  have HR1 := Aside0.mk hr1
  have HC1 := Aside0.mk hc1
  clear hr1 hc1
  have H : ((railplanref19_in.f a0 2 7200).bind fun t166 => (if t166 = true then (railplanref19_ValidVisits.j0 k a0 l1 (decide ((l1.length : Int) > 16))) else (railplanref19_ValidVisits.j0 k a0 l1 true))) = some r := h
  clear h
  have HC3 := Aside0.mk H
  clear H
  go_enter Try.func32, Try.ntmps32
  go_upto_region 1 with (fail)
  repeat (go_quiet (fail); go_upto_region 1 with (fail))
  go_cut [14] (fun v14 wc => ∃ (kq : Nat) (x14_2 : Bool), v14 = .bool x14_2 ∧ Aside0 (railplanref19_ValidVisits.j0 kq a0 l1 x14_2 = some r) ∧ Aside0 (kq ≤ k) ∧ Drawn0 w wc)
  case first =>
    have H := HC3.out
    clear HC3
    replace H := Option.bind_eq_some_iff.mp H
    obtain ⟨t166, A40, H⟩ := H
    replace H : (if t166 = true then (railplanref19_ValidVisits.j0 k a0 l1 (decide ((l1.length : Int) > 16))) else (railplanref19_ValidVisits.j0 k a0 l1 true)) = some r := H
    have A4 := Aside0.mk A40
    clear A40
    by_cases c5 : t166 = true
    · subst c5
      have H1 : (railplanref19_ValidVisits.j0 k a0 l1 (decide ((l1.length : Int) > 16))) = some r := by rw [if_pos rfl] at H; exact H
      clear H
      have H := H1
      clear H1
      have H' := Aside0.mk H
      clear H
      go_wp2_with (first | (go_at_call 40; (with_reducible refine (railplanref19_in.calls a0 2 7200 true _ A4.out).mono ?_); rintro e w' ⟨rfl, ⟨nd, rfl⟩⟩; (try first | exact ⟨rfl, _, World.drewN_drewN _ _ _⟩ | exact ⟨rfl, _, Eq.trans (World.drewN_drewN _ _ _) (congrArg (World.drewN _) (Nat.add_assoc _ _ _))⟩)))
      repeat (go_quiet (first | (go_at_call 40; (with_reducible refine (railplanref19_in.calls a0 2 7200 true _ A4.out).mono ?_); rintro e w' ⟨rfl, ⟨nd, rfl⟩⟩; (try first | exact ⟨rfl, _, World.drewN_drewN _ _ _⟩ | exact ⟨rfl, _, Eq.trans (World.drewN_drewN _ _ _) (congrArg (World.drewN _) (Nat.add_assoc _ _ _))⟩))); try go_wp2_with (first | (go_at_call 40; (with_reducible refine (railplanref19_in.calls a0 2 7200 true _ A4.out).mono ?_); rintro e w' ⟨rfl, ⟨nd, rfl⟩⟩; (try first | exact ⟨rfl, _, World.drewN_drewN _ _ _⟩ | exact ⟨rfl, _, Eq.trans (World.drewN_drewN _ _ _) (congrArg (World.drewN _) (Nat.add_assoc _ _ _))⟩))))
      go_meet
      case rel => exact ⟨_, (decide ((l1.length : Int) > 16)), (by first | rfl | (simp; done) | (simp [*]; done)), H', ⟨by first | omega | exact Nat.le_refl _⟩, by repeat (first | exact Drawn0.refl _ | apply Drawn0.step)⟩
    · replace c5 := Bool.eq_false_iff.mpr c5
      subst c5
      have H1 : (railplanref19_ValidVisits.j0 k a0 l1 true) = some r := by rw [if_neg (show ¬ (false = true) by decide)] at H; exact H
      clear H
      have H := H1
      clear H1
      have H' := Aside0.mk H
      clear H
      go_wp2_with (first | (go_at_call 40; (with_reducible refine (railplanref19_in.calls a0 2 7200 false _ A4.out).mono ?_); rintro e w' ⟨rfl, ⟨nd, rfl⟩⟩; (try first | exact ⟨rfl, _, World.drewN_drewN _ _ _⟩ | exact ⟨rfl, _, Eq.trans (World.drewN_drewN _ _ _) (congrArg (World.drewN _) (Nat.add_assoc _ _ _))⟩)))
      repeat (go_quiet (first | (go_at_call 40; (with_reducible refine (railplanref19_in.calls a0 2 7200 false _ A4.out).mono ?_); rintro e w' ⟨rfl, ⟨nd, rfl⟩⟩; (try first | exact ⟨rfl, _, World.drewN_drewN _ _ _⟩ | exact ⟨rfl, _, Eq.trans (World.drewN_drewN _ _ _) (congrArg (World.drewN _) (Nat.add_assoc _ _ _))⟩))); try go_wp2_with (first | (go_at_call 40; (with_reducible refine (railplanref19_in.calls a0 2 7200 false _ A4.out).mono ?_); rintro e w' ⟨rfl, ⟨nd, rfl⟩⟩; (try first | exact ⟨rfl, _, World.drewN_drewN _ _ _⟩ | exact ⟨rfl, _, Eq.trans (World.drewN_drewN _ _ _) (congrArg (World.drewN _) (Nat.add_assoc _ _ _))⟩))))
      go_meet
      case rel => exact ⟨_, (true), (by first | rfl | (simp; done) | (simp [*]; done)), H', ⟨by first | omega | exact Nat.le_refl _⟩, by repeat (first | exact Drawn0.refl _ | apply Drawn0.step)⟩
  case rest =>
    clear HC3
    try clear c1
    try clear p2
    try clear c3
    try clear c5
    obtain ⟨kq, x14_2, rfl, HA, HJ2, ⟨mc2, rfl⟩⟩ := hcut
    cases kq with
    | zero => exact absurd HA.out (by simp [railplanref19_ValidVisits.j0])
    | succ kj2 =>
      have H := HA.out
      clear HA
      simp only [railplanref19_ValidVisits.j0] at H
      by_cases c6 : x14_2 = true
      · subst c6
        have H1 : (some false) = some r := by rw [if_pos rfl] at H; exact H
        clear H
        have H := H1
        clear H1
        obtain rfl := Option.some.inj H
        go_wp2
        repeat (go_quiet (fail); try go_wp2)
        go_ret
        exact ⟨by first | rfl | (simp; done) | (simp [*]; done), by repeat (first | exact Drawn0.refl _ | apply Drawn0.step)⟩
      · replace c6 := Bool.eq_false_iff.mpr c6
        subst c6
        have H1 : (railplanref19_ValidVisits.l0 kj2 a0 l1 (l1.length : Int) 0) = some r := by rw [if_neg (show ¬ (false = true) by decide)] at H; exact H
        clear H
        have H := H1
        clear H1
        have H' := Aside0.mk H
        clear H
        go_wp2
        repeat (go_quiet (fail); try go_wp2)
        go_loopg [17] kj2 (fun kq v17 w' => ∃ (x17_2 : Int), v17 = .int .i64 x17_2 ∧ Aside0 (railplanref19_ValidVisits.l0 kq a0 l1 (l1.length : Int) x17_2 = some r) ∧ Aside0 (kq ≤ kj2) ∧ Drawn0 w w')
        case atStart => exact ⟨(0), (by first | rfl | (simp; done) | (simp [*]; done)), H', ⟨Nat.le_refl _⟩, by repeat (first | exact Drawn0.refl _ | apply Drawn0.step)⟩
        case round =>
          clear H'
          try clear c1
          try clear c2
          try clear p2
          try clear c3
          try clear c5
          try clear c6
          try clear p2
          obtain ⟨x17_2, rfl, HA, HK2, ⟨m2, rfl⟩⟩ := hrel
          cases gk with
          | zero => exact absurd HA.out (by simp [railplanref19_ValidVisits.l0])
          | succ k2 =>
            have H := HA.out
            clear HA
            simp only [railplanref19_ValidVisits.l0] at H
            by_cases c7 : x17_2 < (l1.length : Int)
            · rw [if_pos c7] at H
              have c7b0 : decide (x17_2 < (l1.length : Int)) = true := decide_eq_true c7
              clear c7
              have HC8 := Aside0.mk H
              clear H
              go_upto_region 6 with (fail)
              repeat (go_quiet (fail); go_upto_region 6 with (fail))
              go_cut [47] (fun v47 wc => ∃ (kq : Nat) (x47_7 : Bool), v47 = .bool x47_7 ∧ Aside0 (railplanref19_ValidVisits.j2 kq a0 l1 x17_2 (l1.length : Int) x17_2 x47_7 = some r) ∧ Aside0 (kq ≤ k2) ∧ Drawn0 w wc)
              case first =>
                have H := HC8.out
                clear HC8
                by_cases c9 : 0 ≤ x17_2
                · rw [if_pos c9] at H
                  have c9b0 : decide (0 ≤ x17_2) = true := decide_eq_true c9
                  clear c9
                  (first | rw [c9b0] | (simp only [i64_w, i32_w]; rw [c9b0]) | skip)
                  by_cases c10 : x17_2 < (l1.length : Int)
                  · rw [if_pos c10] at H
                    have c10b0 : decide (x17_2 < (l1.length : Int)) = true := decide_eq_true c10
                    clear c10
                    replace H := Option.bind_eq_some_iff.mp H
                    obtain ⟨t168, A110, H⟩ := H
                    replace H : (if t168 = true then ((railplanref19_in.f ((rd_T28 l1 x17_2).f1) 1 a0).bind fun t170 => (if t170 = true then (railplanref19_ValidVisits.j2 k2 a0 l1 x17_2 (l1.length : Int) x17_2 (decide ((((rd_T28 l1 x17_2).f2).length : Int) > 8))) else (railplanref19_ValidVisits.j2 k2 a0 l1 x17_2 (l1.length : Int) x17_2 true))) else (railplanref19_ValidVisits.j2 k2 a0 l1 x17_2 (l1.length : Int) x17_2 true)) = some r := H
                    have A11 := Aside0.mk A110
                    clear A110
                    by_cases c12 : t168 = true
                    · subst c12
                      have H1 : ((railplanref19_in.f ((rd_T28 l1 x17_2).f1) 1 a0).bind fun t170 => (if t170 = true then (railplanref19_ValidVisits.j2 k2 a0 l1 x17_2 (l1.length : Int) x17_2 (decide ((((rd_T28 l1 x17_2).f2).length : Int) > 8))) else (railplanref19_ValidVisits.j2 k2 a0 l1 x17_2 (l1.length : Int) x17_2 true))) = some r := by rw [if_pos rfl] at H; exact H
                      clear H
                      have H := H1
                      clear H1
                      replace H := Option.bind_eq_some_iff.mp H
                      obtain ⟨t170, A130, H⟩ := H
                      replace H : (if t170 = true then (railplanref19_ValidVisits.j2 k2 a0 l1 x17_2 (l1.length : Int) x17_2 (decide ((((rd_T28 l1 x17_2).f2).length : Int) > 8))) else (railplanref19_ValidVisits.j2 k2 a0 l1 x17_2 (l1.length : Int) x17_2 true)) = some r := H
                      have A13 := Aside0.mk A130
                      clear A130
                      by_cases c14 : t170 = true
                      · subst c14
                        have H1 : (railplanref19_ValidVisits.j2 k2 a0 l1 x17_2 (l1.length : Int) x17_2 (decide ((((rd_T28 l1 x17_2).f2).length : Int) > 8))) = some r := by rw [if_pos rfl] at H; exact H
                        clear H
                        have H := H1
                        clear H1
                        have H' := Aside0.mk H
                        clear H
                        have p167 : 0 ≤ (x17_2 : Int) := of_decide_eq_true (by first | (with_reducible assumption) | assumption)
                        have q167 : x17_2 < (l1.length : Int) := of_decide_eq_true (by first | (with_reducible assumption) | assumption)
                        obtain ⟨ad167, A167_2, c167_2, e167, hx167_0, hx167_1, hx167_2, hl167_2, hi167_2⟩ := at_T28 HR1.out x17_2 p167 q167
                        cases e167
                        have HR167_2 := Aside0.mk hi167_2
                        have HC167_2 := Aside0.mk hl167_2
                        clear hi167_2 hl167_2
                        replace p167 := eq_true p167
                        replace q167 := eq_true q167
                        go_wp2_with (first | (go_at_call 40; (with_reducible refine (railplanref19_in.calls ((rd_T28 l1 x17_2).f0) 0 (wrap64 (a0 - 1)) true _ A11.out).mono ?_); rintro e w' ⟨rfl, ⟨nd, rfl⟩⟩; (try first | exact ⟨rfl, _, World.drewN_drewN _ _ _⟩ | exact ⟨rfl, _, Eq.trans (World.drewN_drewN _ _ _) (congrArg (World.drewN _) (Nat.add_assoc _ _ _))⟩); have p169 : 0 ≤ (x17_2 : Int) := of_decide_eq_true (by first | (with_reducible assumption) | assumption); have q169 : x17_2 < (l1.length : Int) := of_decide_eq_true (by first | (with_reducible assumption) | assumption); obtain ⟨ad169, A169_2, c169_2, e169, hx169_0, hx169_1, hx169_2, hl169_2, hi169_2⟩ := at_T28 HR1.out x17_2 p169 q169; obtain rfl : ad167 = ad169 := (by injection e169); have HR169_2 := Aside0.mk hi169_2; have HC169_2 := Aside0.mk hl169_2; clear hi169_2 hl169_2; replace p169 := eq_true p169; replace q169 := eq_true q169; have ea_ := Option.some.inj (hx167_2.symm.trans hx169_2); injection ea_ with ea_ en_ ec_; subst ea_; subst ec_; clear en_) | (go_at_call 40; (with_reducible refine (railplanref19_in.calls ((rd_T28 l1 x17_2).f1) 1 a0 true _ A13.out).mono ?_); rintro e w' ⟨rfl, ⟨nd, rfl⟩⟩; (try first | exact ⟨rfl, _, World.drewN_drewN _ _ _⟩ | exact ⟨rfl, _, Eq.trans (World.drewN_drewN _ _ _) (congrArg (World.drewN _) (Nat.add_assoc _ _ _))⟩); have p171 : 0 ≤ (x17_2 : Int) := of_decide_eq_true (by first | (with_reducible assumption) | assumption); have q171 : x17_2 < (l1.length : Int) := of_decide_eq_true (by first | (with_reducible assumption) | assumption); obtain ⟨ad171, A171_2, c171_2, e171, hx171_0, hx171_1, hx171_2, hl171_2, hi171_2⟩ := at_T28 HR1.out x17_2 p171 q171; obtain rfl : ad167 = ad171 := (by injection e171); have HR171_2 := Aside0.mk hi171_2; have HC171_2 := Aside0.mk hl171_2; clear hi171_2 hl171_2; replace p171 := eq_true p171; replace q171 := eq_true q171; have ea_ := Option.some.inj (hx167_2.symm.trans hx171_2); injection ea_ with ea_ en_ ec_; subst ea_; subst ec_; clear en_))
                        repeat (go_quiet (first | (go_at_call 40; (with_reducible refine (railplanref19_in.calls ((rd_T28 l1 x17_2).f0) 0 (wrap64 (a0 - 1)) true _ A11.out).mono ?_); rintro e w' ⟨rfl, ⟨nd, rfl⟩⟩; (try first | exact ⟨rfl, _, World.drewN_drewN _ _ _⟩ | exact ⟨rfl, _, Eq.trans (World.drewN_drewN _ _ _) (congrArg (World.drewN _) (Nat.add_assoc _ _ _))⟩); have p169 : 0 ≤ (x17_2 : Int) := of_decide_eq_true (by first | (with_reducible assumption) | assumption); have q169 : x17_2 < (l1.length : Int) := of_decide_eq_true (by first | (with_reducible assumption) | assumption); obtain ⟨ad169, A169_2, c169_2, e169, hx169_0, hx169_1, hx169_2, hl169_2, hi169_2⟩ := at_T28 HR1.out x17_2 p169 q169; obtain rfl : ad167 = ad169 := (by injection e169); have HR169_2 := Aside0.mk hi169_2; have HC169_2 := Aside0.mk hl169_2; clear hi169_2 hl169_2; replace p169 := eq_true p169; replace q169 := eq_true q169; have ea_ := Option.some.inj (hx167_2.symm.trans hx169_2); injection ea_ with ea_ en_ ec_; subst ea_; subst ec_; clear en_) | (go_at_call 40; (with_reducible refine (railplanref19_in.calls ((rd_T28 l1 x17_2).f1) 1 a0 true _ A13.out).mono ?_); rintro e w' ⟨rfl, ⟨nd, rfl⟩⟩; (try first | exact ⟨rfl, _, World.drewN_drewN _ _ _⟩ | exact ⟨rfl, _, Eq.trans (World.drewN_drewN _ _ _) (congrArg (World.drewN _) (Nat.add_assoc _ _ _))⟩); have p171 : 0 ≤ (x17_2 : Int) := of_decide_eq_true (by first | (with_reducible assumption) | assumption); have q171 : x17_2 < (l1.length : Int) := of_decide_eq_true (by first | (with_reducible assumption) | assumption); obtain ⟨ad171, A171_2, c171_2, e171, hx171_0, hx171_1, hx171_2, hl171_2, hi171_2⟩ := at_T28 HR1.out x17_2 p171 q171; obtain rfl : ad167 = ad171 := (by injection e171); have HR171_2 := Aside0.mk hi171_2; have HC171_2 := Aside0.mk hl171_2; clear hi171_2 hl171_2; replace p171 := eq_true p171; replace q171 := eq_true q171; have ea_ := Option.some.inj (hx167_2.symm.trans hx171_2); injection ea_ with ea_ en_ ec_; subst ea_; subst ec_; clear en_)); try go_wp2_with (first | (go_at_call 40; (with_reducible refine (railplanref19_in.calls ((rd_T28 l1 x17_2).f0) 0 (wrap64 (a0 - 1)) true _ A11.out).mono ?_); rintro e w' ⟨rfl, ⟨nd, rfl⟩⟩; (try first | exact ⟨rfl, _, World.drewN_drewN _ _ _⟩ | exact ⟨rfl, _, Eq.trans (World.drewN_drewN _ _ _) (congrArg (World.drewN _) (Nat.add_assoc _ _ _))⟩); have p169 : 0 ≤ (x17_2 : Int) := of_decide_eq_true (by first | (with_reducible assumption) | assumption); have q169 : x17_2 < (l1.length : Int) := of_decide_eq_true (by first | (with_reducible assumption) | assumption); obtain ⟨ad169, A169_2, c169_2, e169, hx169_0, hx169_1, hx169_2, hl169_2, hi169_2⟩ := at_T28 HR1.out x17_2 p169 q169; obtain rfl : ad167 = ad169 := (by injection e169); have HR169_2 := Aside0.mk hi169_2; have HC169_2 := Aside0.mk hl169_2; clear hi169_2 hl169_2; replace p169 := eq_true p169; replace q169 := eq_true q169; have ea_ := Option.some.inj (hx167_2.symm.trans hx169_2); injection ea_ with ea_ en_ ec_; subst ea_; subst ec_; clear en_) | (go_at_call 40; (with_reducible refine (railplanref19_in.calls ((rd_T28 l1 x17_2).f1) 1 a0 true _ A13.out).mono ?_); rintro e w' ⟨rfl, ⟨nd, rfl⟩⟩; (try first | exact ⟨rfl, _, World.drewN_drewN _ _ _⟩ | exact ⟨rfl, _, Eq.trans (World.drewN_drewN _ _ _) (congrArg (World.drewN _) (Nat.add_assoc _ _ _))⟩); have p171 : 0 ≤ (x17_2 : Int) := of_decide_eq_true (by first | (with_reducible assumption) | assumption); have q171 : x17_2 < (l1.length : Int) := of_decide_eq_true (by first | (with_reducible assumption) | assumption); obtain ⟨ad171, A171_2, c171_2, e171, hx171_0, hx171_1, hx171_2, hl171_2, hi171_2⟩ := at_T28 HR1.out x17_2 p171 q171; obtain rfl : ad167 = ad171 := (by injection e171); have HR171_2 := Aside0.mk hi171_2; have HC171_2 := Aside0.mk hl171_2; clear hi171_2 hl171_2; replace p171 := eq_true p171; replace q171 := eq_true q171; have ea_ := Option.some.inj (hx167_2.symm.trans hx171_2); injection ea_ with ea_ en_ ec_; subst ea_; subst ec_; clear en_)))
                        go_meet
                        case rel => exact ⟨_, (decide ((((rd_T28 l1 x17_2).f2).length : Int) > 8)), (by first | rfl | (simp; done) | (simp [*]; done)), H', ⟨by have := HJ2.out; have := HK2.out; first | omega | exact Nat.le_refl _⟩, by repeat (first | exact Drawn0.refl _ | apply Drawn0.step)⟩
                      · replace c14 := Bool.eq_false_iff.mpr c14
                        subst c14
                        have H1 : (railplanref19_ValidVisits.j2 k2 a0 l1 x17_2 (l1.length : Int) x17_2 true) = some r := by rw [if_neg (show ¬ (false = true) by decide)] at H; exact H
                        clear H
                        have H := H1
                        clear H1
                        have H' := Aside0.mk H
                        clear H
                        have p167 : 0 ≤ (x17_2 : Int) := of_decide_eq_true (by first | (with_reducible assumption) | assumption)
                        have q167 : x17_2 < (l1.length : Int) := of_decide_eq_true (by first | (with_reducible assumption) | assumption)
                        obtain ⟨ad167, A167_2, c167_2, e167, hx167_0, hx167_1, hx167_2, hl167_2, hi167_2⟩ := at_T28 HR1.out x17_2 p167 q167
                        cases e167
                        have HR167_2 := Aside0.mk hi167_2
                        have HC167_2 := Aside0.mk hl167_2
                        clear hi167_2 hl167_2
                        replace p167 := eq_true p167
                        replace q167 := eq_true q167
                        go_wp2_with (first | (go_at_call 40; (with_reducible refine (railplanref19_in.calls ((rd_T28 l1 x17_2).f0) 0 (wrap64 (a0 - 1)) true _ A11.out).mono ?_); rintro e w' ⟨rfl, ⟨nd, rfl⟩⟩; (try first | exact ⟨rfl, _, World.drewN_drewN _ _ _⟩ | exact ⟨rfl, _, Eq.trans (World.drewN_drewN _ _ _) (congrArg (World.drewN _) (Nat.add_assoc _ _ _))⟩); have p169 : 0 ≤ (x17_2 : Int) := of_decide_eq_true (by first | (with_reducible assumption) | assumption); have q169 : x17_2 < (l1.length : Int) := of_decide_eq_true (by first | (with_reducible assumption) | assumption); obtain ⟨ad169, A169_2, c169_2, e169, hx169_0, hx169_1, hx169_2, hl169_2, hi169_2⟩ := at_T28 HR1.out x17_2 p169 q169; obtain rfl : ad167 = ad169 := (by injection e169); have HR169_2 := Aside0.mk hi169_2; have HC169_2 := Aside0.mk hl169_2; clear hi169_2 hl169_2; replace p169 := eq_true p169; replace q169 := eq_true q169; have ea_ := Option.some.inj (hx167_2.symm.trans hx169_2); injection ea_ with ea_ en_ ec_; subst ea_; subst ec_; clear en_) | (go_at_call 40; (with_reducible refine (railplanref19_in.calls ((rd_T28 l1 x17_2).f1) 1 a0 false _ A13.out).mono ?_); rintro e w' ⟨rfl, ⟨nd, rfl⟩⟩; (try first | exact ⟨rfl, _, World.drewN_drewN _ _ _⟩ | exact ⟨rfl, _, Eq.trans (World.drewN_drewN _ _ _) (congrArg (World.drewN _) (Nat.add_assoc _ _ _))⟩)))
                        repeat (go_quiet (first | (go_at_call 40; (with_reducible refine (railplanref19_in.calls ((rd_T28 l1 x17_2).f0) 0 (wrap64 (a0 - 1)) true _ A11.out).mono ?_); rintro e w' ⟨rfl, ⟨nd, rfl⟩⟩; (try first | exact ⟨rfl, _, World.drewN_drewN _ _ _⟩ | exact ⟨rfl, _, Eq.trans (World.drewN_drewN _ _ _) (congrArg (World.drewN _) (Nat.add_assoc _ _ _))⟩); have p169 : 0 ≤ (x17_2 : Int) := of_decide_eq_true (by first | (with_reducible assumption) | assumption); have q169 : x17_2 < (l1.length : Int) := of_decide_eq_true (by first | (with_reducible assumption) | assumption); obtain ⟨ad169, A169_2, c169_2, e169, hx169_0, hx169_1, hx169_2, hl169_2, hi169_2⟩ := at_T28 HR1.out x17_2 p169 q169; obtain rfl : ad167 = ad169 := (by injection e169); have HR169_2 := Aside0.mk hi169_2; have HC169_2 := Aside0.mk hl169_2; clear hi169_2 hl169_2; replace p169 := eq_true p169; replace q169 := eq_true q169; have ea_ := Option.some.inj (hx167_2.symm.trans hx169_2); injection ea_ with ea_ en_ ec_; subst ea_; subst ec_; clear en_) | (go_at_call 40; (with_reducible refine (railplanref19_in.calls ((rd_T28 l1 x17_2).f1) 1 a0 false _ A13.out).mono ?_); rintro e w' ⟨rfl, ⟨nd, rfl⟩⟩; (try first | exact ⟨rfl, _, World.drewN_drewN _ _ _⟩ | exact ⟨rfl, _, Eq.trans (World.drewN_drewN _ _ _) (congrArg (World.drewN _) (Nat.add_assoc _ _ _))⟩))); try go_wp2_with (first | (go_at_call 40; (with_reducible refine (railplanref19_in.calls ((rd_T28 l1 x17_2).f0) 0 (wrap64 (a0 - 1)) true _ A11.out).mono ?_); rintro e w' ⟨rfl, ⟨nd, rfl⟩⟩; (try first | exact ⟨rfl, _, World.drewN_drewN _ _ _⟩ | exact ⟨rfl, _, Eq.trans (World.drewN_drewN _ _ _) (congrArg (World.drewN _) (Nat.add_assoc _ _ _))⟩); have p169 : 0 ≤ (x17_2 : Int) := of_decide_eq_true (by first | (with_reducible assumption) | assumption); have q169 : x17_2 < (l1.length : Int) := of_decide_eq_true (by first | (with_reducible assumption) | assumption); obtain ⟨ad169, A169_2, c169_2, e169, hx169_0, hx169_1, hx169_2, hl169_2, hi169_2⟩ := at_T28 HR1.out x17_2 p169 q169; obtain rfl : ad167 = ad169 := (by injection e169); have HR169_2 := Aside0.mk hi169_2; have HC169_2 := Aside0.mk hl169_2; clear hi169_2 hl169_2; replace p169 := eq_true p169; replace q169 := eq_true q169; have ea_ := Option.some.inj (hx167_2.symm.trans hx169_2); injection ea_ with ea_ en_ ec_; subst ea_; subst ec_; clear en_) | (go_at_call 40; (with_reducible refine (railplanref19_in.calls ((rd_T28 l1 x17_2).f1) 1 a0 false _ A13.out).mono ?_); rintro e w' ⟨rfl, ⟨nd, rfl⟩⟩; (try first | exact ⟨rfl, _, World.drewN_drewN _ _ _⟩ | exact ⟨rfl, _, Eq.trans (World.drewN_drewN _ _ _) (congrArg (World.drewN _) (Nat.add_assoc _ _ _))⟩))))
                        go_meet
                        case rel => exact ⟨_, (true), (by first | rfl | (simp; done) | (simp [*]; done)), H', ⟨by have := HJ2.out; have := HK2.out; first | omega | exact Nat.le_refl _⟩, by repeat (first | exact Drawn0.refl _ | apply Drawn0.step)⟩
                    · replace c12 := Bool.eq_false_iff.mpr c12
                      subst c12
                      have H1 : (railplanref19_ValidVisits.j2 k2 a0 l1 x17_2 (l1.length : Int) x17_2 true) = some r := by rw [if_neg (show ¬ (false = true) by decide)] at H; exact H
                      clear H
                      have H := H1
                      clear H1
                      have H' := Aside0.mk H
                      clear H
                      have p167 : 0 ≤ (x17_2 : Int) := of_decide_eq_true (by first | (with_reducible assumption) | assumption)
                      have q167 : x17_2 < (l1.length : Int) := of_decide_eq_true (by first | (with_reducible assumption) | assumption)
                      obtain ⟨ad167, A167_2, c167_2, e167, hx167_0, hx167_1, hx167_2, hl167_2, hi167_2⟩ := at_T28 HR1.out x17_2 p167 q167
                      cases e167
                      have HR167_2 := Aside0.mk hi167_2
                      have HC167_2 := Aside0.mk hl167_2
                      clear hi167_2 hl167_2
                      replace p167 := eq_true p167
                      replace q167 := eq_true q167
                      go_wp2_with (first | (go_at_call 40; (with_reducible refine (railplanref19_in.calls ((rd_T28 l1 x17_2).f0) 0 (wrap64 (a0 - 1)) false _ A11.out).mono ?_); rintro e w' ⟨rfl, ⟨nd, rfl⟩⟩; (try first | exact ⟨rfl, _, World.drewN_drewN _ _ _⟩ | exact ⟨rfl, _, Eq.trans (World.drewN_drewN _ _ _) (congrArg (World.drewN _) (Nat.add_assoc _ _ _))⟩)))
                      repeat (go_quiet (first | (go_at_call 40; (with_reducible refine (railplanref19_in.calls ((rd_T28 l1 x17_2).f0) 0 (wrap64 (a0 - 1)) false _ A11.out).mono ?_); rintro e w' ⟨rfl, ⟨nd, rfl⟩⟩; (try first | exact ⟨rfl, _, World.drewN_drewN _ _ _⟩ | exact ⟨rfl, _, Eq.trans (World.drewN_drewN _ _ _) (congrArg (World.drewN _) (Nat.add_assoc _ _ _))⟩))); try go_wp2_with (first | (go_at_call 40; (with_reducible refine (railplanref19_in.calls ((rd_T28 l1 x17_2).f0) 0 (wrap64 (a0 - 1)) false _ A11.out).mono ?_); rintro e w' ⟨rfl, ⟨nd, rfl⟩⟩; (try first | exact ⟨rfl, _, World.drewN_drewN _ _ _⟩ | exact ⟨rfl, _, Eq.trans (World.drewN_drewN _ _ _) (congrArg (World.drewN _) (Nat.add_assoc _ _ _))⟩))))
                      go_meet
                      case rel => exact ⟨_, (true), (by first | rfl | (simp; done) | (simp [*]; done)), H', ⟨by have := HJ2.out; have := HK2.out; first | omega | exact Nat.le_refl _⟩, by repeat (first | exact Drawn0.refl _ | apply Drawn0.step)⟩
                  · rw [if_neg c10] at H
                    exact absurd H (by simp)
                · rw [if_neg c9] at H
                  exact absurd H (by simp)
              case rest =>
                clear HC8
                try clear c1
                try clear p1
                try clear q1
                try clear hx1
                try clear c2
                try clear p2
                try clear c3
                try clear c5
                try clear c6
                try clear p6
                try clear c7
                try clear c7b0
                try clear c9
                try clear c9b0
                try clear c10
                try clear c10b0
                try clear c12
                try clear c14
                try clear hx167_0
                try clear hx167_1
                try clear hx167_2
                try clear hx169_0
                try clear hx169_1
                try clear hx169_2
                try clear hx171_0
                try clear hx171_1
                try clear hx171_2
                try clear p167
                try clear p169
                try clear p171
                try clear p2
                try clear q167
                try clear q169
                try clear q171
                obtain ⟨kq, x47_7, rfl, HA, HJ7, ⟨mc7, rfl⟩⟩ := hcut
                cases kq with
                | zero => exact absurd HA.out (by simp [railplanref19_ValidVisits.j2])
                | succ kj7 =>
                  have H := HA.out
                  clear HA
                  simp only [railplanref19_ValidVisits.j2] at H
                  by_cases c15 : x47_7 = true
                  · subst c15
                    have H1 : (some false) = some r := by rw [if_pos rfl] at H; exact H
                    clear H
                    have H := H1
                    clear H1
                    obtain rfl := Option.some.inj H
                    go_wp2
                    repeat (go_quiet (fail); try go_wp2)
                    go_ret
                    exact ⟨by first | rfl | (simp; done) | (simp [*]; done), by repeat (first | exact Drawn0.refl _ | apply Drawn0.step)⟩
                  · replace c15 := Bool.eq_false_iff.mpr c15
                    subst c15
                    have H1 : (if 0 ≤ x17_2 then (if x17_2 < (l1.length : Int) then (railplanref19_ValidVisits.l1 kj7 a0 l1 x17_2 (l1.length : Int) x17_2 (((rd_T28 l1 x17_2).f2).length : Int) 0) else (none)) else (none)) = some r := by rw [if_neg (show ¬ (false = true) by decide)] at H; exact H
                    clear H
                    have H := H1
                    clear H1
                    by_cases c16 : 0 ≤ x17_2
                    · rw [if_pos c16] at H
                      have c16b0 : decide (0 ≤ x17_2) = true := decide_eq_true c16
                      clear c16
                      by_cases c17 : x17_2 < (l1.length : Int)
                      · rw [if_pos c17] at H
                        have c17b0 : decide (x17_2 < (l1.length : Int)) = true := decide_eq_true c17
                        clear c17
                        have H' := Aside0.mk H
                        clear H
                        have p172 : 0 ≤ (x17_2 : Int) := of_decide_eq_true (by first | (with_reducible assumption) | assumption)
                        have q172 : x17_2 < (l1.length : Int) := of_decide_eq_true (by first | (with_reducible assumption) | assumption)
                        obtain ⟨ad172, A172_2, c172_2, e172, hx172_0, hx172_1, hx172_2, hl172_2, hi172_2⟩ := at_T28 HR1.out x17_2 p172 q172
                        cases e172
                        have HR172_2 := Aside0.mk hi172_2
                        have HC172_2 := Aside0.mk hl172_2
                        clear hi172_2 hl172_2
                        replace p172 := eq_true p172
                        replace q172 := eq_true q172
                        go_wp2
                        repeat (go_quiet (fail); try go_wp2)
                        go_loopg [54] kj7 (fun kq v54 w' => ∃ (x54_4 : Int), v54 = .int .i64 x54_4 ∧ Aside0 (railplanref19_ValidVisits.l1 kq a0 l1 x17_2 (l1.length : Int) x17_2 (((rd_T28 l1 x17_2).f2).length : Int) x54_4 = some r) ∧ Aside0 (kq ≤ kj7) ∧ Drawn0 w w')
                        case atStart => exact ⟨(0), (by first | rfl | (simp; done) | (simp [*]; done)), H', ⟨Nat.le_refl _⟩, by repeat (first | exact Drawn0.refl _ | apply Drawn0.step)⟩
                        case round =>
                          clear H'
                          try clear c1
                          try clear p1
                          try clear q1
                          try clear hx1
                          try clear c2
                          try clear p2
                          try clear c3
                          try clear c5
                          try clear c6
                          try clear p6
                          try clear c7
                          try clear c7b0
                          try clear c9
                          try clear c9b0
                          try clear c10
                          try clear c10b0
                          try clear c12
                          try clear c14
                          try clear c15
                          try clear c16
                          try clear c16b0
                          try clear p16
                          try clear q16
                          try clear hx16
                          try clear c17
                          try clear c17b0
                          try clear p17
                          try clear q17
                          try clear hx17
                          try clear hx167_0
                          try clear hx167_1
                          try clear hx167_2
                          try clear hx169_0
                          try clear hx169_1
                          try clear hx169_2
                          try clear hx171_0
                          try clear hx171_1
                          try clear hx171_2
                          try clear hx172_0
                          try clear hx172_1
                          try clear hx172_2
                          try clear p1
                          try clear p167
                          try clear p169
                          try clear p171
                          try clear p172
                          try clear p2
                          try clear p6
                          try clear q1
                          try clear q167
                          try clear q169
                          try clear q171
                          try clear q172
                          obtain ⟨x54_4, rfl, HA, HK4, ⟨m4, rfl⟩⟩ := hrel
                          cases gk with
                          | zero => exact absurd HA.out (by simp [railplanref19_ValidVisits.l1])
                          | succ k4 =>
                            have H := HA.out
                            clear HA
                            simp only [railplanref19_ValidVisits.l1] at H
                            by_cases c18 : x54_4 < (((rd_T28 l1 x17_2).f2).length : Int)
                            · rw [if_pos c18] at H
                              have c18b0 : decide (x54_4 < (((rd_T28 l1 x17_2).f2).length : Int)) = true := decide_eq_true c18
                              clear c18
                              by_cases c19 : 0 ≤ x17_2
                              · rw [if_pos c19] at H
                                have c19b0 : decide (0 ≤ x17_2) = true := decide_eq_true c19
                                clear c19
                                by_cases c20 : x17_2 < (l1.length : Int)
                                · rw [if_pos c20] at H
                                  have c20b0 : decide (x17_2 < (l1.length : Int)) = true := decide_eq_true c20
                                  clear c20
                                  by_cases c21 : 0 ≤ x54_4
                                  · rw [if_pos c21] at H
                                    have c21b0 : decide (0 ≤ x54_4) = true := decide_eq_true c21
                                    clear c21
                                    by_cases c22 : x54_4 < (((rd_T28 l1 x17_2).f2).length : Int)
                                    · rw [if_pos c22] at H
                                      have c22b0 : decide (x54_4 < (((rd_T28 l1 x17_2).f2).length : Int)) = true := decide_eq_true c22
                                      clear c22
                                      by_cases c23 : (rd ((rd_T28 l1 x17_2).f2) x54_4) < 0
                                      · rw [if_pos c23] at H
                                        have c23b0 : decide ((rd ((rd_T28 l1 x17_2).f2) x54_4) < 0) = true := decide_eq_true c23
                                        clear c23
                                        obtain rfl := Option.some.inj H
                                        have p173 : 0 ≤ (x17_2 : Int) := of_decide_eq_true (by first | (with_reducible assumption) | assumption)
                                        have q173 : x17_2 < (l1.length : Int) := of_decide_eq_true (by first | (with_reducible assumption) | assumption)
                                        obtain ⟨ad173, A173_2, c173_2, e173, hx173_0, hx173_1, hx173_2, hl173_2, hi173_2⟩ := at_T28 HR1.out x17_2 p173 q173
                                        obtain rfl : ad172 = ad173 := (by injection e173)
                                        have HR173_2 := Aside0.mk hi173_2
                                        have HC173_2 := Aside0.mk hl173_2
                                        clear hi173_2 hl173_2
                                        replace p173 := eq_true p173
                                        replace q173 := eq_true q173
                                        have p174 : 0 ≤ (x54_4 : Int) := of_decide_eq_true (by first | (with_reducible assumption) | assumption)
                                        have q174 : x54_4 < (((rd_T28 l1 x17_2).f2).length : Int) := of_decide_eq_true (by first | (with_reducible assumption) | assumption)
                                        obtain ⟨ad174, e174, hx174_0⟩ := Kd.at_int HR173_2.out x54_4 p174 q174
                                        cases e174
                                        replace p174 := eq_true p174
                                        replace q174 := eq_true q174
                                        go_wp2
                                        repeat (go_quiet (fail); try go_wp2)
                                        go_ret
                                        exact ⟨by first | rfl | (simp; done) | (simp [*]; done), by repeat (first | exact Drawn0.refl _ | apply Drawn0.step)⟩
                                      · rw [if_neg c23] at H
                                        have c23b0 : decide ((rd ((rd_T28 l1 x17_2).f2) x54_4) < 0) = false := decide_eq_false c23
                                        clear c23
                                        by_cases c24 : x54_4 > 0
                                        · rw [if_pos c24] at H
                                          have c24b0 : decide (0 < x54_4) = true := decide_eq_true c24
                                          clear c24
                                          obtain ⟨ji25, hji25⟩ : ∃ j_ : Int, (wrap64 (x54_4 - 1)) = j_ := ⟨_, rfl⟩
                                          replace H : (if 0 ≤ (ji25) then (if (ji25) < (((rd_T28 l1 x17_2).f2).length : Int) then (if (rd ((rd_T28 l1 x17_2).f2) x54_4) ≤ (rd ((rd_T28 l1 x17_2).f2) (ji25)) then (some false) else (railplanref19_ValidVisits.l1 k4 a0 l1 x17_2 (l1.length : Int) x17_2 (((rd_T28 l1 x17_2).f2).length : Int) (wrap64 (x54_4 + 1)))) else (none)) else (none)) = some r := by first | (rw [hji25] at H; exact H) | (simp only [hji25] at H ⊢; exact H)
                                          have hji25w : (IntKind.i64.wrap (x54_4 - 1)) = ji25 := (i64_w _).trans hji25
                                          by_cases c26 : 0 ≤ (ji25)
                                          · rw [if_pos c26] at H
                                            have c26b0 : decide (0 ≤ (ji25)) = true := decide_eq_true c26
                                            clear c26
                                            by_cases c27 : (ji25) < (((rd_T28 l1 x17_2).f2).length : Int)
                                            · rw [if_pos c27] at H
                                              have c27b0 : decide ((ji25) < (((rd_T28 l1 x17_2).f2).length : Int)) = true := decide_eq_true c27
                                              clear c27
                                              by_cases c28 : (rd ((rd_T28 l1 x17_2).f2) x54_4) ≤ (rd ((rd_T28 l1 x17_2).f2) (ji25))
                                              · rw [if_pos c28] at H
                                                have c28b0 : decide ((rd ((rd_T28 l1 x17_2).f2) x54_4) ≤ (rd ((rd_T28 l1 x17_2).f2) (ji25))) = true := decide_eq_true c28
                                                clear c28
                                                obtain rfl := Option.some.inj H
                                                have p173 : 0 ≤ (x17_2 : Int) := of_decide_eq_true (by first | (with_reducible assumption) | assumption)
                                                have q173 : x17_2 < (l1.length : Int) := of_decide_eq_true (by first | (with_reducible assumption) | assumption)
                                                obtain ⟨ad173, A173_2, c173_2, e173, hx173_0, hx173_1, hx173_2, hl173_2, hi173_2⟩ := at_T28 HR1.out x17_2 p173 q173
                                                obtain rfl : ad172 = ad173 := (by injection e173)
                                                have HR173_2 := Aside0.mk hi173_2
                                                have HC173_2 := Aside0.mk hl173_2
                                                clear hi173_2 hl173_2
                                                replace p173 := eq_true p173
                                                replace q173 := eq_true q173
                                                have p174 : 0 ≤ (x54_4 : Int) := of_decide_eq_true (by first | (with_reducible assumption) | assumption)
                                                have q174 : x54_4 < (((rd_T28 l1 x17_2).f2).length : Int) := of_decide_eq_true (by first | (with_reducible assumption) | assumption)
                                                obtain ⟨ad174, e174, hx174_0⟩ := Kd.at_int HR173_2.out x54_4 p174 q174
                                                cases e174
                                                replace p174 := eq_true p174
                                                replace q174 := eq_true q174
                                                have p175 : 0 ≤ (x17_2 : Int) := of_decide_eq_true (by first | (with_reducible assumption) | assumption)
                                                have q175 : x17_2 < (l1.length : Int) := of_decide_eq_true (by first | (with_reducible assumption) | assumption)
                                                obtain ⟨ad175, A175_2, c175_2, e175, hx175_0, hx175_1, hx175_2, hl175_2, hi175_2⟩ := at_T28 HR1.out x17_2 p175 q175
                                                obtain rfl : ad172 = ad175 := (by injection e175)
                                                have HR175_2 := Aside0.mk hi175_2
                                                have HC175_2 := Aside0.mk hl175_2
                                                clear hi175_2 hl175_2
                                                replace p175 := eq_true p175
                                                replace q175 := eq_true q175
                                                have ea_ := Option.some.inj (hx173_2.symm.trans hx175_2)
                                                injection ea_ with ea_ en_ ec_
                                                subst ea_
                                                subst ec_
                                                clear en_
                                                have p176 : 0 ≤ (x54_4 : Int) := of_decide_eq_true (by first | (with_reducible assumption) | assumption)
                                                have q176 : x54_4 < (((rd_T28 l1 x17_2).f2).length : Int) := of_decide_eq_true (by first | (with_reducible assumption) | assumption)
                                                obtain ⟨ad176, e176, hx176_0⟩ := Kd.at_int HR175_2.out x54_4 p176 q176
                                                cases e176
                                                replace p176 := eq_true p176
                                                replace q176 := eq_true q176
                                                have p177 : 0 ≤ (x17_2 : Int) := of_decide_eq_true (by first | (with_reducible assumption) | assumption)
                                                have q177 : x17_2 < (l1.length : Int) := of_decide_eq_true (by first | (with_reducible assumption) | assumption)
                                                obtain ⟨ad177, A177_2, c177_2, e177, hx177_0, hx177_1, hx177_2, hl177_2, hi177_2⟩ := at_T28 HR1.out x17_2 p177 q177
                                                obtain rfl : ad172 = ad177 := (by injection e177)
                                                have HR177_2 := Aside0.mk hi177_2
                                                have HC177_2 := Aside0.mk hl177_2
                                                clear hi177_2 hl177_2
                                                replace p177 := eq_true p177
                                                replace q177 := eq_true q177
                                                have ea_ := Option.some.inj (hx173_2.symm.trans hx177_2)
                                                injection ea_ with ea_ en_ ec_
                                                subst ea_
                                                subst ec_
                                                clear en_
                                                have p178 : 0 ≤ ((ji25) : Int) := of_decide_eq_true (by first | (with_reducible assumption) | assumption)
                                                have q178 : (ji25) < (((rd_T28 l1 x17_2).f2).length : Int) := of_decide_eq_true (by first | (with_reducible assumption) | assumption)
                                                obtain ⟨ad178, e178, hx178_0⟩ := Kd.at_int HR177_2.out (ji25) p178 q178
                                                cases e178
                                                replace p178 := eq_true p178
                                                replace q178 := eq_true q178
                                                go_wp2
                                                repeat (go_quiet (fail); try go_wp2)
                                                go_ret
                                                exact ⟨by first | rfl | (simp; done) | (simp only [← hji25] <;> (first | rfl | simp)) | (simp [*]; done), by repeat (first | exact Drawn0.refl _ | apply Drawn0.step)⟩
                                              · rw [if_neg c28] at H
                                                have c28b0 : decide ((rd ((rd_T28 l1 x17_2).f2) x54_4) ≤ (rd ((rd_T28 l1 x17_2).f2) (ji25))) = false := decide_eq_false c28
                                                clear c28
                                                have H' := Aside0.mk H
                                                clear H
                                                have p173 : 0 ≤ (x17_2 : Int) := of_decide_eq_true (by first | (with_reducible assumption) | assumption)
                                                have q173 : x17_2 < (l1.length : Int) := of_decide_eq_true (by first | (with_reducible assumption) | assumption)
                                                obtain ⟨ad173, A173_2, c173_2, e173, hx173_0, hx173_1, hx173_2, hl173_2, hi173_2⟩ := at_T28 HR1.out x17_2 p173 q173
                                                obtain rfl : ad172 = ad173 := (by injection e173)
                                                have HR173_2 := Aside0.mk hi173_2
                                                have HC173_2 := Aside0.mk hl173_2
                                                clear hi173_2 hl173_2
                                                replace p173 := eq_true p173
                                                replace q173 := eq_true q173
                                                have p174 : 0 ≤ (x54_4 : Int) := of_decide_eq_true (by first | (with_reducible assumption) | assumption)
                                                have q174 : x54_4 < (((rd_T28 l1 x17_2).f2).length : Int) := of_decide_eq_true (by first | (with_reducible assumption) | assumption)
                                                obtain ⟨ad174, e174, hx174_0⟩ := Kd.at_int HR173_2.out x54_4 p174 q174
                                                cases e174
                                                replace p174 := eq_true p174
                                                replace q174 := eq_true q174
                                                have p175 : 0 ≤ (x17_2 : Int) := of_decide_eq_true (by first | (with_reducible assumption) | assumption)
                                                have q175 : x17_2 < (l1.length : Int) := of_decide_eq_true (by first | (with_reducible assumption) | assumption)
                                                obtain ⟨ad175, A175_2, c175_2, e175, hx175_0, hx175_1, hx175_2, hl175_2, hi175_2⟩ := at_T28 HR1.out x17_2 p175 q175
                                                obtain rfl : ad172 = ad175 := (by injection e175)
                                                have HR175_2 := Aside0.mk hi175_2
                                                have HC175_2 := Aside0.mk hl175_2
                                                clear hi175_2 hl175_2
                                                replace p175 := eq_true p175
                                                replace q175 := eq_true q175
                                                have ea_ := Option.some.inj (hx173_2.symm.trans hx175_2)
                                                injection ea_ with ea_ en_ ec_
                                                subst ea_
                                                subst ec_
                                                clear en_
                                                have p176 : 0 ≤ (x54_4 : Int) := of_decide_eq_true (by first | (with_reducible assumption) | assumption)
                                                have q176 : x54_4 < (((rd_T28 l1 x17_2).f2).length : Int) := of_decide_eq_true (by first | (with_reducible assumption) | assumption)
                                                obtain ⟨ad176, e176, hx176_0⟩ := Kd.at_int HR175_2.out x54_4 p176 q176
                                                cases e176
                                                replace p176 := eq_true p176
                                                replace q176 := eq_true q176
                                                have p177 : 0 ≤ (x17_2 : Int) := of_decide_eq_true (by first | (with_reducible assumption) | assumption)
                                                have q177 : x17_2 < (l1.length : Int) := of_decide_eq_true (by first | (with_reducible assumption) | assumption)
                                                obtain ⟨ad177, A177_2, c177_2, e177, hx177_0, hx177_1, hx177_2, hl177_2, hi177_2⟩ := at_T28 HR1.out x17_2 p177 q177
                                                obtain rfl : ad172 = ad177 := (by injection e177)
                                                have HR177_2 := Aside0.mk hi177_2
                                                have HC177_2 := Aside0.mk hl177_2
                                                clear hi177_2 hl177_2
                                                replace p177 := eq_true p177
                                                replace q177 := eq_true q177
                                                have ea_ := Option.some.inj (hx173_2.symm.trans hx177_2)
                                                injection ea_ with ea_ en_ ec_
                                                subst ea_
                                                subst ec_
                                                clear en_
                                                have p178 : 0 ≤ ((ji25) : Int) := of_decide_eq_true (by first | (with_reducible assumption) | assumption)
                                                have q178 : (ji25) < (((rd_T28 l1 x17_2).f2).length : Int) := of_decide_eq_true (by first | (with_reducible assumption) | assumption)
                                                obtain ⟨ad178, e178, hx178_0⟩ := Kd.at_int HR177_2.out (ji25) p178 q178
                                                cases e178
                                                replace p178 := eq_true p178
                                                replace q178 := eq_true q178
                                                go_wp2
                                                repeat (go_quiet (fail); try go_wp2)
                                                go_roundg k4
                                                case measure => have := HJ2.out; have := HK2.out; have := HJ7.out; have := HK4.out; omega
                                                case rel => exact ⟨(wrap64 (x54_4 + 1)), (by first | rfl | (simp; done) | (simp [*]; done)), H', ⟨by have := HJ2.out; have := HK2.out; have := HJ7.out; have := HK4.out; omega⟩, by repeat (first | exact Drawn0.refl _ | apply Drawn0.step)⟩
                                            · rw [if_neg c27] at H
                                              exact absurd H (by simp)
                                          · rw [if_neg c26] at H
                                            exact absurd H (by simp)
                                        · rw [if_neg c24] at H
                                          have c24b0 : decide (0 < x54_4) = false := decide_eq_false c24
                                          clear c24
                                          have H' := Aside0.mk H
                                          clear H
                                          have p173 : 0 ≤ (x17_2 : Int) := of_decide_eq_true (by first | (with_reducible assumption) | assumption)
                                          have q173 : x17_2 < (l1.length : Int) := of_decide_eq_true (by first | (with_reducible assumption) | assumption)
                                          obtain ⟨ad173, A173_2, c173_2, e173, hx173_0, hx173_1, hx173_2, hl173_2, hi173_2⟩ := at_T28 HR1.out x17_2 p173 q173
                                          obtain rfl : ad172 = ad173 := (by injection e173)
                                          have HR173_2 := Aside0.mk hi173_2
                                          have HC173_2 := Aside0.mk hl173_2
                                          clear hi173_2 hl173_2
                                          replace p173 := eq_true p173
                                          replace q173 := eq_true q173
                                          have p174 : 0 ≤ (x54_4 : Int) := of_decide_eq_true (by first | (with_reducible assumption) | assumption)
                                          have q174 : x54_4 < (((rd_T28 l1 x17_2).f2).length : Int) := of_decide_eq_true (by first | (with_reducible assumption) | assumption)
                                          obtain ⟨ad174, e174, hx174_0⟩ := Kd.at_int HR173_2.out x54_4 p174 q174
                                          cases e174
                                          replace p174 := eq_true p174
                                          replace q174 := eq_true q174
                                          go_wp2
                                          repeat (go_quiet (fail); try go_wp2)
                                          go_roundg k4
                                          case measure => have := HJ2.out; have := HK2.out; have := HJ7.out; have := HK4.out; omega
                                          case rel => exact ⟨(wrap64 (x54_4 + 1)), (by first | rfl | (simp; done) | (simp [*]; done)), H', ⟨by have := HJ2.out; have := HK2.out; have := HJ7.out; have := HK4.out; omega⟩, by repeat (first | exact Drawn0.refl _ | apply Drawn0.step)⟩
                                    · rw [if_neg c22] at H
                                      exact absurd H (by simp)
                                  · rw [if_neg c21] at H
                                    exact absurd H (by simp)
                                · rw [if_neg c20] at H
                                  exact absurd H (by simp)
                              · rw [if_neg c19] at H
                                exact absurd H (by simp)
                            · rw [if_neg c18] at H
                              have c18b0 : decide (x54_4 < (((rd_T28 l1 x17_2).f2).length : Int)) = false := decide_eq_false c18
                              clear c18
                              have H' := Aside0.mk H
                              clear H
                              go_wp2
                              repeat (go_quiet (fail); try go_wp2)
                              go_roundg k4
                              case measure => have := HJ2.out; have := HK2.out; have := HJ7.out; have := HK4.out; omega
                              case rel => exact ⟨(wrap64 (x17_2 + 1)), (by first | rfl | (simp; done) | (simp [*]; done)), H', ⟨by have := HJ2.out; have := HK2.out; have := HJ7.out; have := HK4.out; omega⟩, by repeat (first | exact Drawn0.refl _ | apply Drawn0.step)⟩
                      · rw [if_neg c17] at H
                        exact absurd H (by simp)
                    · rw [if_neg c16] at H
                      exact absurd H (by simp)
            · rw [if_neg c7] at H
              have c7b0 : decide (x17_2 < (l1.length : Int)) = false := decide_eq_false c7
              clear c7
              obtain rfl := Option.some.inj H
              go_wp2
              repeat (go_quiet (fail); try go_wp2)
              go_ret
              exact ⟨by first | rfl | (simp; done) | (simp [*]; done), by repeat (first | exact Drawn0.refl _ | apply Drawn0.step)⟩

end Go.Proofs.Ytdgdjbehddeepaa.PAll
