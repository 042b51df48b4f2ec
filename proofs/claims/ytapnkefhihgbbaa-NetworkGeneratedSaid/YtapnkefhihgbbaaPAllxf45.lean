/- What calls of the Go functions below do, each under the premises that its theorem states. Laid by a program of the claimant, which drives the kit's print; some texts are written by hand. -/
import Derived.Test.YtapnkefhihgbbaaPAllx0
import Derived.Test.YtapnkefhihgbbaaPAllxf22
import Derived.Test.YtapnkefhihgbbaaPAllxf25
namespace Go.Proofs.Ytapnkefhihgbbaa.PAll
open Go.RowKit Go.Proofs.YtapnkefhihgbbaaW.PrintWords Go.Proofs.YtapnkefhihgbbaaW.PrintLast Go.Proofs.YtapnkefhihgbbaaW.PrintMore
attribute [local go_sem] max2_int min2_int max_two min_two max_three min_three max_four min_four   -- for this text's walks alone
set_option linter.unusedVariables false
set_option linter.unusedSimpArgs false

/-! ### arith_Mod: function 45 -/
def arith_Mod.f (a0 : Int) (a1 : Int) : Option (Int) := if a1 < 1 then (some 0) else (if a1 = 0 then (none) else (if (Int.tmod a0 a1) < 0 then (some (wrap64 ((Int.tmod a0 a1) + a1))) else (some (Int.tmod a0 a1))))
set_option maxHeartbeats 8000000 in
set_option maxRecDepth 100000 in
theorem arith_Mod.calls (a0 : Int) (a1 : Int) (r : Int) (w : World) (h : arith_Mod.f a0 a1 = some r) :
    Calls Try.prog 45 #[.int .i64 a0, .int .i64 a1] w fun e w' => e = .returned (.int .i64 r) ∧ Drawn0 w w' := by
  have H : (if a1 < 1 then (some 0) else (if a1 = 0 then (none) else (if (Int.tmod a0 a1) < 0 then (some (wrap64 ((Int.tmod a0 a1) + a1))) else (some (Int.tmod a0 a1))))) = some r := h
  clear h
  by_cases c3 : a1 < 1
  · rw [if_pos c3] at H
    have c3b0 : decide (a1 < 1) = true := decide_eq_true c3
    clear c3
    obtain rfl := Option.some.inj H
    go_enter Try.func45, Try.ntmps45
    go_wp2
    go_ret
    exact ⟨by first | rfl | (simp; done) | (simp [*]; done), by repeat (first | exact Drawn0.refl _ | apply Drawn0.step)⟩
  · rw [if_neg c3] at H
    have c3b0 : decide (a1 < 1) = false := decide_eq_false c3
    clear c3
    by_cases c4 : a1 = 0
    · rw [if_pos c4] at H
      exact absurd H (by simp)
    · rw [if_neg c4] at H
      have c4b0 : (a1 == 0) = false := beq_eq_false_iff_ne.mpr c4
      have c4b1 : (a1 != 0) = true := bne_iff_ne.mpr c4
      by_cases c5 : (Int.tmod a0 a1) < 0
      · rw [if_pos c5] at H
        have c5b0 : decide ((Int.tmod a0 a1) < 0) = true := decide_eq_true c5
        clear c5
        obtain rfl := Option.some.inj H
        go_enter Try.func45, Try.ntmps45
        go_wp2
        go_ret
        exact ⟨by first | rfl | (simp; done) | (simp [*]; done), by repeat (first | exact Drawn0.refl _ | apply Drawn0.step)⟩
      · rw [if_neg c5] at H
        have c5b0 : decide ((Int.tmod a0 a1) < 0) = false := decide_eq_false c5
        clear c5
        obtain rfl := Option.some.inj H
        go_enter Try.func45, Try.ntmps45
        go_wp2
        go_ret
        exact ⟨by first | rfl | (simp; done) | (simp [*]; done), by repeat (first | exact Drawn0.refl _ | apply Drawn0.step)⟩

/-! ### network_Lasts: function 42 -/
def network_Lasts.f (a0 : Int) (a1_0 : Int) (a1_1 : Int) (a1_2 : Int) (a1_3 : Int) (a1_4 : Int) (a1_5 : Int) (a2 : Int) (a3 : Int) : Option (Int) := (arith_Mod.f (wrap64 ((wrap64 (a3 - a2)) - a1_3)) a0).bind fun t148 => (some (wrap64 (a1_3 + t148)))
set_option maxHeartbeats 8000000 in
set_option maxRecDepth 100000 in
theorem network_Lasts.calls (a0 : Int) (a1_0 : Int) (a1_1 : Int) (a1_2 : Int) (a1_3 : Int) (a1_4 : Int) (a1_5 : Int) (a2 : Int) (a3 : Int) (r : Int) (w : World) (h : network_Lasts.f a0 a1_0 a1_1 a1_2 a1_3 a1_4 a1_5 a2 a3 = some r) :
    Calls Try.prog 42 #[.int .i64 a0, .agg #[.int .i64 a1_0, .int .i64 a1_1, .int .i64 a1_2, .int .i64 a1_3, .int .i64 a1_4, .int .i64 a1_5], .int .i64 a2, .int .i64 a3] w fun e w' => e = .returned (.int .i64 r) ∧ Below w.heap.size w w' := by
  have hu31 := Try.underlying31
  have HB := Aside0.mk (Below.refl w.heap.size w)
  have H : ((arith_Mod.f (wrap64 ((wrap64 (a3 - a2)) - a1_3)) a0).bind fun t148 => (some (wrap64 (a1_3 + t148)))) = some r := h
  clear h
  replace H := Option.bind_eq_some_iff.mp H
  obtain ⟨t148, A50, H⟩ := H
  replace H : (some (wrap64 (a1_3 + t148))) = some r := H
  have A5 := Aside0.mk A50
  clear A50
  obtain rfl := Option.some.inj H
  go_enter Try.func42, Try.ntmps42
  go_wp2_with (first | ((with_reducible refine gate_dst (N := 5) rfl ?_); refine box_event ?hg (N := 5) ?hd (cs := #[.int .i64 a1_0, .int .i64 a1_1, .int .i64 a1_2, .int .i64 a1_3, .int .i64 a1_4, .int .i64 a1_5]) (t := 31) ?hr ?_; (case hd => rfl); (case hg => rfl); (case hr => first | (go_simp; done) | (go_simp; rfl)); intro gb147 hg w6 hbox hb; have n0_ := Aside0.mk (below_step (by repeat (first | (with_reducible first | exact HB.out | apply below_alloc | apply pw_below_drewN | apply below_drew1) | exact HB.out)) hb); have n1_ := Aside0.mk (hbox); have n2_ := Aside0.mk ((by rw [hg]; exact (below_size (by repeat (first | (with_reducible first | exact HB.out | apply below_alloc | apply pw_below_drewN | apply below_drew1) | exact HB.out))) : w.heap.size ≤ gb147)); have n3_ := Aside0.mk ((by rw [hg]; exact (below_size (by repeat (first | (with_reducible first | exact HB.out | apply below_alloc | apply pw_below_drewN | apply below_drew1) | exact HB.out))) : w.heap.size ≤ gb147)); clear HB; have HB := n0_; have BK147 := n1_; have GW147 := n2_; have GE147 := n3_; clear n0_ n1_ n2_ n3_; clear hb hbox hg; have hcz7_0 : w6.cell? ⟨gb147, 0, none⟩ = some (.int .i64 a1_0) := (blk_cell BK147.out 0).trans rfl; have hcz7_1 : w6.cell? ⟨gb147, 1, none⟩ = some (.int .i64 a1_1) := (blk_cell BK147.out 1).trans rfl; have hcz7_2 : w6.cell? ⟨gb147, 2, none⟩ = some (.int .i64 a1_2) := (blk_cell BK147.out 2).trans rfl; have hcz7_3 : w6.cell? ⟨gb147, 3, none⟩ = some (.int .i64 a1_3) := (blk_cell BK147.out 3).trans rfl; have hcz7_4 : w6.cell? ⟨gb147, 4, none⟩ = some (.int .i64 a1_4) := (blk_cell BK147.out 4).trans rfl; have hcz7_5 : w6.cell? ⟨gb147, 5, none⟩ = some (.int .i64 a1_5) := (blk_cell BK147.out 5).trans rfl; have hfz7_0 := blk_frozen BK147.out 0; have hfz7_1 := blk_frozen BK147.out 1; have hfz7_2 := blk_frozen BK147.out 2; have hfz7_3 := blk_frozen BK147.out 3; have hfz7_4 := blk_frozen BK147.out 4; have hfz7_5 := blk_frozen BK147.out 5) | (go_at_call 45; (with_reducible refine (arith_Mod.calls (wrap64 ((wrap64 (a3 - a2)) - a1_3)) a0 t148 _ A5.out).mono ?_); rintro e w' ⟨rfl, ⟨nd, rfl⟩⟩; (try first | exact ⟨rfl, _, World.drewN_drewN _ _ _⟩ | exact ⟨rfl, _, Eq.trans (World.drewN_drewN _ _ _) (congrArg (World.drewN _) (Nat.add_assoc _ _ _))⟩)))
  repeat (go_quiet (first | ((with_reducible refine gate_dst (N := 5) rfl ?_); refine box_event ?hg (N := 5) ?hd (cs := #[.int .i64 a1_0, .int .i64 a1_1, .int .i64 a1_2, .int .i64 a1_3, .int .i64 a1_4, .int .i64 a1_5]) (t := 31) ?hr ?_; (case hd => rfl); (case hg => rfl); (case hr => first | (go_simp; done) | (go_simp; rfl)); intro gb147 hg w6 hbox hb; have n0_ := Aside0.mk (below_step (by repeat (first | (with_reducible first | exact HB.out | apply below_alloc | apply pw_below_drewN | apply below_drew1) | exact HB.out)) hb); have n1_ := Aside0.mk (hbox); have n2_ := Aside0.mk ((by rw [hg]; exact (below_size (by repeat (first | (with_reducible first | exact HB.out | apply below_alloc | apply pw_below_drewN | apply below_drew1) | exact HB.out))) : w.heap.size ≤ gb147)); have n3_ := Aside0.mk ((by rw [hg]; exact (below_size (by repeat (first | (with_reducible first | exact HB.out | apply below_alloc | apply pw_below_drewN | apply below_drew1) | exact HB.out))) : w.heap.size ≤ gb147)); clear HB; have HB := n0_; have BK147 := n1_; have GW147 := n2_; have GE147 := n3_; clear n0_ n1_ n2_ n3_; clear hb hbox hg; have hcz7_0 : w6.cell? ⟨gb147, 0, none⟩ = some (.int .i64 a1_0) := (blk_cell BK147.out 0).trans rfl; have hcz7_1 : w6.cell? ⟨gb147, 1, none⟩ = some (.int .i64 a1_1) := (blk_cell BK147.out 1).trans rfl; have hcz7_2 : w6.cell? ⟨gb147, 2, none⟩ = some (.int .i64 a1_2) := (blk_cell BK147.out 2).trans rfl; have hcz7_3 : w6.cell? ⟨gb147, 3, none⟩ = some (.int .i64 a1_3) := (blk_cell BK147.out 3).trans rfl; have hcz7_4 : w6.cell? ⟨gb147, 4, none⟩ = some (.int .i64 a1_4) := (blk_cell BK147.out 4).trans rfl; have hcz7_5 : w6.cell? ⟨gb147, 5, none⟩ = some (.int .i64 a1_5) := (blk_cell BK147.out 5).trans rfl; have hfz7_0 := blk_frozen BK147.out 0; have hfz7_1 := blk_frozen BK147.out 1; have hfz7_2 := blk_frozen BK147.out 2; have hfz7_3 := blk_frozen BK147.out 3; have hfz7_4 := blk_frozen BK147.out 4; have hfz7_5 := blk_frozen BK147.out 5) | (go_at_call 45; (with_reducible refine (arith_Mod.calls (wrap64 ((wrap64 (a3 - a2)) - a1_3)) a0 t148 _ A5.out).mono ?_); rintro e w' ⟨rfl, ⟨nd, rfl⟩⟩; (try first | exact ⟨rfl, _, World.drewN_drewN _ _ _⟩ | exact ⟨rfl, _, Eq.trans (World.drewN_drewN _ _ _) (congrArg (World.drewN _) (Nat.add_assoc _ _ _))⟩))); try go_wp2_with (first | ((with_reducible refine gate_dst (N := 5) rfl ?_); refine box_event ?hg (N := 5) ?hd (cs := #[.int .i64 a1_0, .int .i64 a1_1, .int .i64 a1_2, .int .i64 a1_3, .int .i64 a1_4, .int .i64 a1_5]) (t := 31) ?hr ?_; (case hd => rfl); (case hg => rfl); (case hr => first | (go_simp; done) | (go_simp; rfl)); intro gb147 hg w6 hbox hb; have n0_ := Aside0.mk (below_step (by repeat (first | (with_reducible first | exact HB.out | apply below_alloc | apply pw_below_drewN | apply below_drew1) | exact HB.out)) hb); have n1_ := Aside0.mk (hbox); have n2_ := Aside0.mk ((by rw [hg]; exact (below_size (by repeat (first | (with_reducible first | exact HB.out | apply below_alloc | apply pw_below_drewN | apply below_drew1) | exact HB.out))) : w.heap.size ≤ gb147)); have n3_ := Aside0.mk ((by rw [hg]; exact (below_size (by repeat (first | (with_reducible first | exact HB.out | apply below_alloc | apply pw_below_drewN | apply below_drew1) | exact HB.out))) : w.heap.size ≤ gb147)); clear HB; have HB := n0_; have BK147 := n1_; have GW147 := n2_; have GE147 := n3_; clear n0_ n1_ n2_ n3_; clear hb hbox hg; have hcz7_0 : w6.cell? ⟨gb147, 0, none⟩ = some (.int .i64 a1_0) := (blk_cell BK147.out 0).trans rfl; have hcz7_1 : w6.cell? ⟨gb147, 1, none⟩ = some (.int .i64 a1_1) := (blk_cell BK147.out 1).trans rfl; have hcz7_2 : w6.cell? ⟨gb147, 2, none⟩ = some (.int .i64 a1_2) := (blk_cell BK147.out 2).trans rfl; have hcz7_3 : w6.cell? ⟨gb147, 3, none⟩ = some (.int .i64 a1_3) := (blk_cell BK147.out 3).trans rfl; have hcz7_4 : w6.cell? ⟨gb147, 4, none⟩ = some (.int .i64 a1_4) := (blk_cell BK147.out 4).trans rfl; have hcz7_5 : w6.cell? ⟨gb147, 5, none⟩ = some (.int .i64 a1_5) := (blk_cell BK147.out 5).trans rfl; have hfz7_0 := blk_frozen BK147.out 0; have hfz7_1 := blk_frozen BK147.out 1; have hfz7_2 := blk_frozen BK147.out 2; have hfz7_3 := blk_frozen BK147.out 3; have hfz7_4 := blk_frozen BK147.out 4; have hfz7_5 := blk_frozen BK147.out 5) | (go_at_call 45; (with_reducible refine (arith_Mod.calls (wrap64 ((wrap64 (a3 - a2)) - a1_3)) a0 t148 _ A5.out).mono ?_); rintro e w' ⟨rfl, ⟨nd, rfl⟩⟩; (try first | exact ⟨rfl, _, World.drewN_drewN _ _ _⟩ | exact ⟨rfl, _, Eq.trans (World.drewN_drewN _ _ _) (congrArg (World.drewN _) (Nat.add_assoc _ _ _))⟩))))
  go_ret
  exact ⟨by first | rfl | (simp [errW_none, errW_some] <;> rfl) | (simp [*, errW_none, errW_some] <;> rfl), by repeat (first | (with_reducible first | exact HB.out | apply below_alloc | apply pw_below_drewN | apply below_drew1 | refine below_set ?_ GE147.out) | exact HB.out)⟩

/-! ### network_lasts: function 30 -/
def network_lasts.f (a0_0 : Int) (l0_1 : List (S46)) (l0_2 : List (S31)) (l1 : List Int) (a2_0 : Int) (a2_1 : Int) (a2_2 : Int) (a2_3 : Int) (a2_4 : Int) (a2_5 : Int) : Option (Int) := if 0 ≤ a2_1 then (if a2_1 < (l1.length : Int) then (if 0 ≤ a2_2 then (if a2_2 < (l1.length : Int) then ((network_Lasts.f a0_0 a2_0 a2_1 a2_2 a2_3 a2_4 a2_5 (rd l1 a2_1) (rd l1 a2_2)).bind fun t153 => (some t153)) else (none)) else (none)) else (none)) else (none)
def network_lasts.T1 : Bool × List (List Nat × List Nat) := (true, [([], []), ([0], [0]), ([], []), ([], []), ([], []), ([4], [4]), ([3, 5], [3, 5]), ([6], [6]), ([], []), ([], []), ([9], [9]), ([8, 10], [8, 10]), ([11], [11]), ([1, 2, 7, 12], [1, 2, 7, 12]), ([13, 13, 0, 1, 2, 3, 4, 5, 6, 7, 8, 9, 10, 11, 12, 13], [13])])
def network_lasts.B1 : List Nat := [0, 1, 0, 0, 0, 16, 56, 120, 0, 0, 512, 1792, 3840, 8191, 16383]
theorem network_lasts.tab1 : rtab .any (opsOf Try.f30 1) = network_lasts.T1 := by kernel_rfl
theorem network_lasts.bits1 : waitsOk network_lasts.T1.2 network_lasts.B1 = true := by kernel_rfl
set_option maxHeartbeats 8000000 in
set_option maxRecDepth 100000 in
theorem network_lasts.calls (a0_0 : Int) (A0_1 : Option Addr) (c0_1 : Nat) (l0_1 : List (S46)) (A0_2 : Option Addr) (c0_2 : Nat) (l0_2 : List (S31)) (A1 : Option Addr) (c1 : Nat) (l1 : List Int) (a2_0 : Int) (a2_1 : Int) (a2_2 : Int) (a2_3 : Int) (a2_4 : Int) (a2_5 : Int) (r : Int) (w : World) (hr0_1 : Kd.C k46 w A0_1 l0_1.length l0_1) (hc0_1 : l0_1.length ≤ c0_1) (hr0_2 : Kd.C k31 w A0_2 l0_2.length l0_2) (hc0_2 : l0_2.length ≤ c0_2) (hr1 : Kd.C (Kd.int .i64) w A1 l1.length l1) (hc1 : l1.length ≤ c1) (h : network_lasts.f a0_0 l0_1 l0_2 l1 a2_0 a2_1 a2_2 a2_3 a2_4 a2_5 = some r) :
    Calls Try.prog 30 #[.agg #[.int .i64 a0_0, .slice A0_1 l0_1.length c0_1, .slice A0_2 l0_2.length c0_2], .slice A1 l1.length c1, .agg #[.int .i64 a2_0, .int .i64 a2_1, .int .i64 a2_2, .int .i64 a2_3, .int .i64 a2_4, .int .i64 a2_5]] w fun e w' => e = .returned (.int .i64 r) ∧ Below w.heap.size w w' := by
  have hu26 := Try.underlying26
  have hu31 := Try.underlying31
  have HR0_1 := Aside0.mk hr0_1
  have HC0_1 := Aside0.mk hc0_1
  clear hr0_1 hc0_1
  have HR0_2 := Aside0.mk hr0_2
  have HC0_2 := Aside0.mk hc0_2
  clear hr0_2 hc0_2
  have HR1 := Aside0.mk hr1
  have HC1 := Aside0.mk hc1
  clear hr1 hc1
  have HB := Aside0.mk (Below.refl w.heap.size w)
  have H : (if 0 ≤ a2_1 then (if a2_1 < (l1.length : Int) then (if 0 ≤ a2_2 then (if a2_2 < (l1.length : Int) then ((network_Lasts.f a0_0 a2_0 a2_1 a2_2 a2_3 a2_4 a2_5 (rd l1 a2_1) (rd l1 a2_2)).bind fun t153 => (some t153)) else (none)) else (none)) else (none)) else (none)) = some r := h
  clear h
  by_cases c4 : 0 ≤ a2_1
  · rw [if_pos c4] at H
    have c4b0 : decide (0 ≤ a2_1) = true := decide_eq_true c4
    clear c4
    by_cases c5 : a2_1 < (l1.length : Int)
    · rw [if_pos c5] at H
      have c5b0 : decide (a2_1 < (l1.length : Int)) = true := decide_eq_true c5
      clear c5
      by_cases c6 : 0 ≤ a2_2
      · rw [if_pos c6] at H
        have c6b0 : decide (0 ≤ a2_2) = true := decide_eq_true c6
        clear c6
        by_cases c7 : a2_2 < (l1.length : Int)
        · rw [if_pos c7] at H
          have c7b0 : decide (a2_2 < (l1.length : Int)) = true := decide_eq_true c7
          clear c7
          replace H := Option.bind_eq_some_iff.mp H
          obtain ⟨t153, A80, H⟩ := H
          replace H : (some t153) = some r := H
          have A8 := Aside0.mk A80
          clear A80
          obtain rfl := Option.some.inj H
          go_enter Try.func30, Try.ntmps30
          try go_wp2_with (first | ((with_reducible refine gate_dst (N := 3) rfl ?_); refine box_event ?hg (N := 3) ?hd (cs := #[.int .i64 a0_0, .slice A0_1 l0_1.length c0_1, .slice A0_2 l0_2.length c0_2]) (t := 26) ?hr ?_; (case hd => rfl); (case hg => rfl); (case hr => first | (go_simp; done) | (go_simp; rfl)); intro gb149 hg w9 hbox hb; have n0_ := Aside0.mk (below_step (by repeat (first | (with_reducible first | exact HB.out | apply below_alloc | apply pw_below_drewN | apply below_drew1) | exact HB.out)) hb); have n1_ := Aside0.mk (hbox); have n2_ := Aside0.mk ((by rw [hg]; exact (below_size (by repeat (first | (with_reducible first | exact HB.out | apply below_alloc | apply pw_below_drewN | apply below_drew1) | exact HB.out))) : w.heap.size ≤ gb149)); have n3_ := Aside0.mk ((by rw [hg]; exact (below_size (by repeat (first | (with_reducible first | exact HB.out | apply below_alloc | apply pw_below_drewN | apply below_drew1) | exact HB.out))) : w.heap.size ≤ gb149)); clear HB; have HB := n0_; have BK149 := n1_; have GW149 := n2_; have GE149 := n3_; clear n0_ n1_ n2_ n3_; clear hb hbox hg) | ((with_reducible refine gate_dst (N := 5) rfl ?_); refine box_event ?hg (N := 5) ?hd (cs := #[.int .i64 a2_0, .int .i64 a2_1, .int .i64 a2_2, .int .i64 a2_3, .int .i64 a2_4, .int .i64 a2_5]) (t := 31) ?hr ?_; (case hd => rfl); (case hg => rfl); (case hr => first | (go_simp; done) | (go_simp; rfl)); intro gb150 hg w10 hbox hb; have n0_ := Aside0.mk (blk_below (g := gb149) (o := .cells #[.int .i64 a0_0, .slice A0_1 l0_1.length c0_1, .slice A0_2 l0_2.length c0_2] 26 (0, 0)) (by (with_reducible repeat (first | refine blk_drewN ?_ _ | refine blk_drew ?_ | refine blk_alloc ?_ _)); exact BK149.out) hb); have n1_ := Aside0.mk (below_step (by repeat (first | (with_reducible first | exact HB.out | apply below_alloc | apply pw_below_drewN | apply below_drew1 | refine below_set ?_ GE149.out) | exact HB.out)) hb); have n2_ := Aside0.mk (hbox); have n3_ := Aside0.mk ((by rw [hg]; exact (below_size (by repeat (first | (with_reducible first | exact HB.out | apply below_alloc | apply pw_below_drewN | apply below_drew1 | refine below_set ?_ GE149.out) | exact HB.out))) : w.heap.size ≤ gb150)); have n4_ := Aside0.mk ((by rw [hg]; exact (below_size (by repeat (first | (with_reducible first | exact HB.out | apply below_alloc | apply pw_below_drewN | apply below_drew1 | refine below_set ?_ GE149.out) | exact HB.out))) : w.heap.size ≤ gb150)); have n5_ := Aside0.mk ((by rw [hg]; exact Nat.ne_of_lt (blk_lt (g := gb149) (o := .cells #[.int .i64 a0_0, .slice A0_1 l0_1.length c0_1, .slice A0_2 l0_2.length c0_2] 26 (0, 0)) (by (with_reducible repeat (first | refine blk_drewN ?_ _ | refine blk_drew ?_ | refine blk_alloc ?_ _)); exact BK149.out)) : gb149 ≠ gb150)); have n6_ := Aside0.mk ((by rw [hg]; exact Nat.ne_of_gt (blk_lt (g := gb149) (o := .cells #[.int .i64 a0_0, .slice A0_1 l0_1.length c0_1, .slice A0_2 l0_2.length c0_2] 26 (0, 0)) (by (with_reducible repeat (first | refine blk_drewN ?_ _ | refine blk_drew ?_ | refine blk_alloc ?_ _)); exact BK149.out)) : gb150 ≠ gb149)); clear BK149; clear HB; have BK149 := n0_; have HB := n1_; have BK150 := n2_; have GW150 := n3_; have GE150 := n4_; have NB149_150 := n5_; have NB150_149 := n6_; clear n0_ n1_ n2_ n3_ n4_ n5_ n6_; clear hb hbox hg))
          have n0_ := Aside0.mk (blk_drew BK149.out)
          have n1_ := Aside0.mk (blk_drew BK150.out)
          have n2_ := Aside0.mk (below_drew1 HB.out)
          clear BK149
          clear BK150
          clear HB
          have BK149 := n0_
          have BK150 := n1_
          have HB := n2_
          clear n0_ n1_ n2_
          have p151 : 0 ≤ (a2_1 : Int) := of_decide_eq_true (by first | (with_reducible assumption) | assumption)
          have q151 : a2_1 < (l1.length : Int) := of_decide_eq_true (by first | (with_reducible assumption) | assumption)
          obtain ⟨ad151, e151, hx151_0⟩ := Kd.at_int HR1.out a2_1 p151 q151
          have hw151_0 := hx151_0
          cases e151
          replace hx151_0 := (HB.out.cell (World.block_lt_of_cell? w _ hx151_0)).trans hx151_0
          replace p151 := eq_true p151
          replace q151 := eq_true q151
          have p152 : 0 ≤ (a2_2 : Int) := of_decide_eq_true (by first | (with_reducible assumption) | assumption)
          have q152 : a2_2 < (l1.length : Int) := of_decide_eq_true (by first | (with_reducible assumption) | assumption)
          obtain ⟨ad152, e152, hx152_0⟩ := Kd.at_int HR1.out a2_2 p152 q152
          have hw152_0 := hx152_0
          obtain rfl : ad151 = ad152 := (by injection e152)
          replace hx152_0 := (HB.out.cell (World.block_lt_of_cell? w _ hx152_0)).trans hx152_0
          replace p152 := eq_true p152
          replace q152 := eq_true q152
          refine start_ (n := 15) (S := fun w' => w'.cell? ⟨gb149, 0, none⟩ = some (.int .i64 a0_0) ∧ w'.cell? ⟨gb149, 1, none⟩ = some (.slice A0_1 l0_1.length c0_1) ∧ w'.cell? ⟨gb149, 2, none⟩ = some (.slice A0_2 l0_2.length c0_2) ∧ w'.cell? ⟨gb150, 0, none⟩ = some (.int .i64 a2_0) ∧ w'.cell? ⟨gb150, 1, none⟩ = some (.int .i64 a2_1) ∧ w'.cell? ⟨gb150, 2, none⟩ = some (.int .i64 a2_2) ∧ w'.cell? ⟨gb150, 3, none⟩ = some (.int .i64 a2_3) ∧ w'.cell? ⟨gb150, 4, none⟩ = some (.int .i64 a2_4) ∧ w'.cell? ⟨gb150, 5, none⟩ = some (.int .i64 a2_5) ∧ w'.cell? (ad151.add (a2_1).toNat) = some (.int .i64 (rd l1 a2_1)) ∧ w'.cell? (ad151.add (a2_2).toNat) = some (.int .i64 (rd l1 a2_2))) (ds := []) #[false, false, false, false, false, false, false, false, false, false, false, false, false, false, false] (by kernel_rfl) rfl rfl ⟨(blk_cell BK149.out 0).trans rfl, (blk_cell BK149.out 1).trans rfl, (blk_cell BK149.out 2).trans rfl, (blk_cell BK150.out 0).trans rfl, (blk_cell BK150.out 1).trans rfl, (blk_cell BK150.out 2).trans rfl, (blk_cell BK150.out 3).trans rfl, (blk_cell BK150.out 4).trans rfl, (blk_cell BK150.out 5).trans rfl, ((HB.out.cell (World.block_lt_of_cell? w _ hw151_0)).trans hw151_0), ((HB.out.cell (World.block_lt_of_cell? w _ hw152_0)).trans hw152_0)⟩ (fun hHeld => ?_); refine with_tabW network_lasts.tab1 network_lasts.bits1 (fun HT_ HW_ => ?_)
          generalize w10.drew = w11 at BK149 BK150 HB hx151_0 hx152_0 hHeld ⊢
          refine pure_ (i := 0) (N := some 7) (v := ?_) (a' := ?_) #[true, false, false, false, false, false, false, false, false, false, false, false, false, false, false] rfl rfl (any_of HT_.out (by kernel_rfl)) (fun _ _ _ h => h) (Or.inl ⟨by rfl, ?_⟩) ?_ ?_
          rotate_left
          · intro w'
            go_simp
            with_reducible rfl
          rotate_left
          · simp only [Act.put, List.setIfInBounds_toArray, List.set_cons_zero, List.set_cons_succ, i64_w, i32_w]
            rfl
          refine pure_ (i := 3) (N := some 10) (v := ?_) (a' := ?_) #[true, false, false, true, false, false, false, false, false, false, false, false, false, false, false] rfl rfl (any_of HT_.out (by kernel_rfl)) (fun _ _ _ h => h) (Or.inl ⟨by rfl, ?_⟩) ?_ ?_
          rotate_left
          · intro w'
            go_simp
            with_reducible rfl
          rotate_left
          · simp only [Act.put, List.setIfInBounds_toArray, List.set_cons_zero, List.set_cons_succ, i64_w, i32_w]
            rfl
          refine pure_ (i := 4) (N := some 11) (v := ?_) (a' := ?_) #[true, false, false, true, true, false, false, false, false, false, false, false, false, false, false] rfl rfl (any_of HT_.out (by kernel_rfl)) (fun _ _ _ h => h) (Or.inl ⟨by rfl, ?_⟩) ?_ ?_
          rotate_left
          · intro w'
            go_simp
            with_reducible rfl
          rotate_left
          · simp only [Act.put, List.setIfInBounds_toArray, List.set_cons_zero, List.set_cons_succ, i64_w, i32_w]
            rfl
          refine pure_ (i := 8) (N := some 15) (v := ?_) (a' := ?_) #[true, false, false, true, true, false, false, false, true, false, false, false, false, false, false] rfl rfl (any_of HT_.out (by kernel_rfl)) (fun _ _ _ h => h) (Or.inl ⟨by rfl, ?_⟩) ?_ ?_
          rotate_left
          · intro w'
            go_simp
            with_reducible rfl
          rotate_left
          · simp only [Act.put, List.setIfInBounds_toArray, List.set_cons_zero, List.set_cons_succ, i64_w, i32_w]
            rfl
          refine pure_ (i := 9) (N := some 16) (v := ?_) (a' := ?_) #[true, false, false, true, true, false, false, false, true, true, false, false, false, false, false] rfl rfl (any_of HT_.out (by kernel_rfl)) (fun _ _ _ h => h) (Or.inl ⟨by rfl, ?_⟩) ?_ ?_
          rotate_left
          · intro w'
            go_simp
            with_reducible rfl
          rotate_left
          · simp only [Act.put, List.setIfInBounds_toArray, List.set_cons_zero, List.set_cons_succ, i64_w, i32_w]
            rfl
          refine take_ (i := 1) (N := some 8) (v := ?_) (a' := ?_) #[true, true, false, true, true, false, false, false, true, true, false, false, false, false, false] rfl rfl (take_ofW HT_.out HW_.out (by kernel_rfl)) (fun _ _ _ h => h) (Or.inl ⟨by rfl, ?_⟩) hHeld ?_ ?_
          rotate_left
          · rintro w' ⟨s0, s1, s2, s3, s4, s5, s6, s7, s8, s9, s10⟩
            go_simp
            with_reducible rfl
          rotate_left
          · simp only [Act.put, List.setIfInBounds_toArray, List.set_cons_zero, List.set_cons_succ, i64_w, i32_w]
            rfl
          refine take_ (i := 2) (N := some 9) (v := ?_) (a' := ?_) #[true, true, true, true, true, false, false, false, true, true, false, false, false, false, false] rfl rfl (take_ofW HT_.out HW_.out (by kernel_rfl)) (fun _ _ _ h => h) (Or.inl ⟨by rfl, ?_⟩) hHeld ?_ ?_
          rotate_left
          · rintro w' ⟨s0, s1, s2, s3, s4, s5, s6, s7, s8, s9, s10⟩
            go_simp
            with_reducible rfl
          rotate_left
          · simp only [Act.put, List.setIfInBounds_toArray, List.set_cons_zero, List.set_cons_succ, i64_w, i32_w]
            rfl
          refine take_ (i := 5) (N := some 12) (v := ?_) (a' := ?_) #[true, true, true, true, true, true, false, false, true, true, false, false, false, false, false] rfl rfl (take_ofW HT_.out HW_.out (by kernel_rfl)) (fun _ _ _ h => h) (Or.inl ⟨by rfl, ?_⟩) hHeld ?_ ?_
          rotate_left
          · rintro w' ⟨s0, s1, s2, s3, s4, s5, s6, s7, s8, s9, s10⟩
            go_simp
            with_reducible rfl
          rotate_left
          · simp only [Act.put, List.setIfInBounds_toArray, List.set_cons_zero, List.set_cons_succ, i64_w, i32_w]
            rfl
          refine pure_ (i := 6) (N := some 13) (v := ?_) (a' := ?_) #[true, true, true, true, true, true, true, false, true, true, false, false, false, false, false] rfl rfl (any_of HT_.out (by kernel_rfl)) (fun _ _ _ h => h) (Or.inl ⟨by rfl, ?_⟩) ?_ ?_
          rotate_left
          · intro w'
            go_simp
            with_reducible rfl
          rotate_left
          · simp only [Act.put, List.setIfInBounds_toArray, List.set_cons_zero, List.set_cons_succ, i64_w, i32_w]
            rfl
          refine take_ (i := 7) (N := some 14) (v := ?_) (a' := ?_) #[true, true, true, true, true, true, true, true, true, true, false, false, false, false, false] rfl rfl (take_ofW HT_.out HW_.out (by kernel_rfl)) (fun _ _ _ h => h) (Or.inl ⟨by rfl, ?_⟩) hHeld ?_ ?_
          rotate_left
          · rintro w' ⟨s0, s1, s2, s3, s4, s5, s6, s7, s8, s9, s10⟩
            go_simp
            with_reducible rfl
          rotate_left
          · simp only [Act.put, List.setIfInBounds_toArray, List.set_cons_zero, List.set_cons_succ, i64_w, i32_w]
            rfl
          refine take_ (i := 10) (N := some 17) (v := ?_) (a' := ?_) #[true, true, true, true, true, true, true, true, true, true, true, false, false, false, false] rfl rfl (take_ofW HT_.out HW_.out (by kernel_rfl)) (fun _ _ _ h => h) (Or.inl ⟨by rfl, ?_⟩) hHeld ?_ ?_
          rotate_left
          · rintro w' ⟨s0, s1, s2, s3, s4, s5, s6, s7, s8, s9, s10⟩
            go_simp
            with_reducible rfl
          rotate_left
          · simp only [Act.put, List.setIfInBounds_toArray, List.set_cons_zero, List.set_cons_succ, i64_w, i32_w]
            rfl
          refine pure_ (i := 11) (N := some 18) (v := ?_) (a' := ?_) #[true, true, true, true, true, true, true, true, true, true, true, true, false, false, false] rfl rfl (any_of HT_.out (by kernel_rfl)) (fun _ _ _ h => h) (Or.inl ⟨by rfl, ?_⟩) ?_ ?_
          rotate_left
          · intro w'
            go_simp
            with_reducible rfl
          rotate_left
          · simp only [Act.put, List.setIfInBounds_toArray, List.set_cons_zero, List.set_cons_succ, i64_w, i32_w]
            rfl
          refine take_ (i := 12) (N := some 19) (v := ?_) (a' := ?_) #[true, true, true, true, true, true, true, true, true, true, true, true, true, false, false] rfl rfl (take_ofW HT_.out HW_.out (by kernel_rfl)) (fun _ _ _ h => h) (Or.inl ⟨by rfl, ?_⟩) hHeld ?_ ?_
          rotate_left
          · rintro w' ⟨s0, s1, s2, s3, s4, s5, s6, s7, s8, s9, s10⟩
            go_simp
            with_reducible rfl
          rotate_left
          · simp only [Act.put, List.setIfInBounds_toArray, List.set_cons_zero, List.set_cons_succ, i64_w, i32_w]
            rfl
          refine one_ (i := 13) (N := some 20) #[true, true, true, true, true, true, true, true, true, true, true, true, true, true, false] rfl rfl (one_of HT_.out (by kernel_rfl)) (by decide) (fun K hK => ?_)
          refine goes_ Try.func42 (by kernel_rfl) rfl #[.int .i64 a0_0, .agg #[.int .i64 a2_0, .int .i64 a2_1, .int .i64 a2_2, .int .i64 a2_3, .int .i64 a2_4, .int .i64 a2_5], .int .i64 (rd l1 a2_1), .int .i64 (rd l1 a2_2)] (by rfl) rfl rfl (by (try simp only [List.map_toArray, List.map_cons, List.map_nil]); first | done | rfl | (simp only [List.length_drop, List.length_take]; rfl)) ?_
          with_reducible refine (network_Lasts.calls a0_0 a2_0 a2_1 a2_2 a2_3 a2_4 a2_5 (rd l1 a2_1) (rd l1 a2_2) t153 _ A8.out).mono ?_
          rintro e w12 ⟨rfl, hb⟩
          refine ⟨_, rfl, ?_⟩
          have n0_ := Aside0.mk (blk_below (g := gb149) (o := .cells #[.int .i64 a0_0, .slice A0_1 l0_1.length c0_1, .slice A0_2 l0_2.length c0_2] 26 (0, 0)) (by (with_reducible repeat (first | refine blk_drewN ?_ _ | refine blk_drew ?_ | refine blk_alloc ?_ _)); exact BK149.out) hb)
          have n1_ := Aside0.mk (blk_below (g := gb150) (o := .cells #[.int .i64 a2_0, .int .i64 a2_1, .int .i64 a2_2, .int .i64 a2_3, .int .i64 a2_4, .int .i64 a2_5] 31 (0, 0)) (by (with_reducible repeat (first | refine blk_drewN ?_ _ | refine blk_drew ?_ | refine blk_alloc ?_ _)); exact BK150.out) hb)
          have n2_ := Aside0.mk (below_step (by repeat (first | (with_reducible first | exact HB.out | apply below_alloc | apply pw_below_drewN | apply below_drew1 | refine below_set ?_ GE149.out | refine below_set ?_ GE150.out) | exact HB.out)) hb)
          clear BK149
          clear BK150
          clear HB
          have BK149 := n0_
          have BK150 := n1_
          have HB := n2_
          clear n0_ n1_ n2_
          (try clear hb)
          (try clear hb2)
          (try clear hk)
          (try clear hi)
          refine hK.out _ _ ⟨(blk_cell BK149.out 0).trans rfl, (blk_cell BK149.out 1).trans rfl, (blk_cell BK149.out 2).trans rfl, (blk_cell BK150.out 0).trans rfl, (blk_cell BK150.out 1).trans rfl, (blk_cell BK150.out 2).trans rfl, (blk_cell BK150.out 3).trans rfl, (blk_cell BK150.out 4).trans rfl, (blk_cell BK150.out 5).trans rfl, ((HB.out.cell (World.block_lt_of_cell? w _ hw151_0)).trans hw151_0), ((HB.out.cell (World.block_lt_of_cell? w _ hw152_0)).trans hw152_0)⟩ (fun hHeld => ?_)
          clear hK K
          refine norm_ (a' := ?_) ?_ ?_
          rotate_left
          · show Act.put _ (some 20) _ = _
            simp only [Act.put, List.setIfInBounds_toArray, List.set_cons_zero, List.set_cons_succ, i64_w, i32_w]
            rfl
          refine pure_ (i := 14) (N := some 6) (v := ?_) (a' := ?_) #[true, true, true, true, true, true, true, true, true, true, true, true, true, true, true] rfl rfl (any_of HT_.out (by kernel_rfl)) (fun _ _ _ h => h) (Or.inl ⟨by rfl, ?_⟩) ?_ ?_
          rotate_left
          · intro w'
            go_simp
            with_reducible rfl
          rotate_left
          · simp only [Act.put, List.setIfInBounds_toArray, List.set_cons_zero, List.set_cons_succ, i64_w, i32_w]
            rfl
          refine done_ (done_of HT_.out (by kernel_rfl)) ?_
          try go_wp2
          go_ret
          exact ⟨by first | rfl | (simp [errW_none, errW_some] <;> rfl) | (simp [*, errW_none, errW_some] <;> rfl), by repeat (first | (with_reducible first | exact HB.out | apply below_alloc | apply pw_below_drewN | apply below_drew1 | refine below_set ?_ GE149.out | refine below_set ?_ GE150.out) | exact HB.out)⟩
        · rw [if_neg c7] at H
          exact absurd H (by simp)
      · rw [if_neg c6] at H
        exact absurd H (by simp)
    · rw [if_neg c5] at H
      exact absurd H (by simp)
  · rw [if_neg c4] at H
    exact absurd H (by simp)

/-! ### network_First: function 24 -/
theorem tmod_emod_ (a m : Int) : a % m = (Int.tmod a m) % m := by
  conv => lhs; rw [← Int.tmod_add_mul_tdiv a m]
  exact Int.add_mul_emod_self_left ..
theorem arith_Mod.eq (a m : Int) (h1 : 1 ≤ m) (h2 : m ≤ 4611686018427387904) : arith_Mod.f a m = some (a % m) := by
  unfold arith_Mod.f
  rw [if_neg (by omega), if_neg (by omega)]
  have e := tmod_emod_ a m
  have hlt := Int.tmod_lt_of_pos a (show 0 < m by omega)
  have hgt := Int.lt_tmod_of_pos a (show 0 < m by omega)
  by_cases h : Int.tmod a m < 0
  · rw [if_pos h]
    have e2 : wrap64 (Int.tmod a m + m) = Int.tmod a m + m := by unfold wrap64; omega
    have e3 : (Int.tmod a m + m) % m = Int.tmod a m % m := Int.add_emod_right ..
    rw [e2, e, ← e3, Int.emod_eq_of_lt (by omega) (by omega)]
  · rw [if_neg h, e, Int.emod_eq_of_lt (by omega) (by omega)]
/-- The duration of an activity. -/
def network_lasts.v (per : Int) (t : List Int) (x : S31) : Int := x.f3 + (rd t x.f2 - rd t x.f1 - x.f3) % per

theorem network_lasts.eq (per : Int) (l0_1 : List S46) (l0_2 : List S31) (t : List Int) (x : S31) (h1 : 2 ≤ per) (h2 : per ≤ 7200) (ht : ∀ y ∈ t, 0 ≤ y ∧ y ≤ per - 1) (ha : 0 ≤ x.f1 ∧ x.f1 < t.length) (hb : 0 ≤ x.f2 ∧ x.f2 < t.length) (hm : -65536 ≤ x.f3 ∧ x.f3 ≤ 65536) :
    network_lasts.f per l0_1 l0_2 t x.f0 x.f1 x.f2 x.f3 x.f4 x.f5 = some (network_lasts.v per t x) := by
  have hr : ∀ i : Int, 0 ≤ i → i < t.length → 0 ≤ rd t i ∧ rd t i ≤ per - 1 := fun i h0 h1 => by
    unfold rd
    have hl : i.toNat < t.length := by omega
    rw [List.getD_eq_getElem?_getD, List.getElem?_eq_getElem hl]
    exact ht _ (List.getElem_mem hl)
  have ra := hr x.f1 ha.1 ha.2
  have rb := hr x.f2 hb.1 hb.2
  unfold network_lasts.f
  rw [if_pos ha.1, if_pos ha.2, if_pos hb.1, if_pos hb.2]
  unfold network_Lasts.f network_lasts.v
  have e1 : wrap64 (wrap64 (rd t x.f2 - rd t x.f1) - x.f3) = rd t x.f2 - rd t x.f1 - x.f3 := by unfold wrap64; omega
  rw [e1, arith_Mod.eq _ _ (by omega) (by omega)]
  simp only [Option.bind_some]
  have p1 := Int.emod_nonneg (rd t x.f2 - rd t x.f1 - x.f3) (show per ≠ 0 by omega)
  have p2 := Int.emod_lt_of_pos (rd t x.f2 - rd t x.f1 - x.f3) (show 0 < per by omega)
  have e2 : wrap64 (x.f3 + (rd t x.f2 - rd t x.f1 - x.f3) % per) = x.f3 + (rd t x.f2 - rd t x.f1 - x.f3) % per := by unfold wrap64; omega
  rw [e2]
/-- What Good says. -/
structure network_Good.Is (per : Int) (l0_1 : List S46) (l0_2 : List S31) (t : List Int) : Prop where
  p1 : 2 ≤ per
  p2 : per ≤ 7200
  le : l0_1.length ≤ 48
  la : l0_2.length ≤ 512
  lt : t.length = l0_1.length
  ts : ∀ y ∈ t, 0 ≤ y ∧ y ≤ per - 1
  ac : ∀ x ∈ l0_2, (0 ≤ x.f1 ∧ x.f1 < t.length) ∧ (0 ≤ x.f2 ∧ x.f2 < t.length) ∧ x.f1 ≠ x.f2 ∧ -65536 ≤ x.f3 ∧ x.f3 ≤ x.f4 ∧ x.f4 ≤ 65536 ∧ x.f4 - x.f3 < per ∧ 0 ≤ x.f5 ∧ x.f5 ≤ 1048576
theorem network_Check.good (per last : Int) (x : S31) (h : network_Check.bad per last x = false) : (0 ≤ x.f1 ∧ x.f1 ≤ last) ∧ (0 ≤ x.f2 ∧ x.f2 ≤ last) ∧ x.f1 ≠ x.f2 ∧ -65536 ≤ x.f3 ∧ x.f3 ≤ x.f4 ∧ x.f4 ≤ 65536 ∧ x.f4 - x.f3 < per ∧ 0 ≤ x.f5 ∧ x.f5 ≤ 1048576 := by
  unfold network_Check.bad at h
  simp only [Bool.or_eq_false_iff, Bool.not_eq_false', Bool.and_eq_true, decide_eq_true_eq, decide_eq_false_iff_not, beq_eq_false_iff_ne, ne_eq] at h
  obtain ⟨h1, h2, h3, h4, h5, h6, h7, h8⟩ := h
  have e : wrap64 (x.f4 - x.f3) = x.f4 - x.f3 := by unfold wrap64; omega
  rw [e] at h7
  exact ⟨h1, h2, h3, by omega, by omega, by omega, by omega, h8.1, h8.2⟩
theorem network_Good.is {per : Int} {l0_1 : List S46} {l0_2 : List S31} {t : List Int} (h : network_Good.b per l0_1 l0_2 t = true) : network_Good.Is per l0_1 l0_2 t := by
  unfold network_Good.b network_Check.b at h
  simp only [Bool.and_eq_true, decide_eq_true_eq, Bool.not_eq_true', List.any_eq_false, Bool.not_eq_false'] at h
  obtain ⟨⟨⟨⟨⟨⟨h1, h2⟩, h3⟩, h4⟩, h5⟩, h6⟩, h7⟩ := h
  refine ⟨h1, h2, h3, h4, h6, fun y hy => ?_, fun x hx => ?_⟩
  · have := h7 y hy
    simpa using this
  · have := network_Check.good per _ x (by simpa using h5 x hx)
    obtain ⟨a, b, c⟩ := this
    exact ⟨⟨a.1, by omega⟩, ⟨b.1, by omega⟩, c⟩
set_option maxHeartbeats 8000000 in
set_option maxRecDepth 100000 in
theorem network_First.closure (per : Int) (A0_1 : Option Addr) (c0_1 : Nat) (l0_1 : List S46) (A0_2 : Option Addr) (c0_2 : Nat) (l0_2 : List S31) (A1 : Option Addr) (c1 : Nat) (t : List Int) (x : S31) (g2 g3 : Nat) (w W : World) (hb : Below w.heap.size w W) (hg2 : g2 < w.heap.size) (hg3 : g3 < w.heap.size)
    (hr0_1 : Kd.C k46 w A0_1 l0_1.length l0_1) (hc0_1 : l0_1.length ≤ c0_1) (hr0_2 : Kd.C k31 w A0_2 l0_2.length l0_2) (hc0_2 : l0_2.length ≤ c0_2) (hr1 : Kd.C (Kd.int .i64) w A1 t.length t) (hc1 : t.length ≤ c1)
    (hn0 : w.cell? ⟨g2, 0, none⟩ = some (.int .i64 per)) (hn1 : w.cell? ⟨g2, 1, none⟩ = some (.slice A0_1 l0_1.length c0_1)) (hn2 : w.cell? ⟨g2, 2, none⟩ = some (.slice A0_2 l0_2.length c0_2)) (ht : w.cell? ⟨g3, 0, none⟩ = some (.slice A1 t.length c1)) (v : Int) (hv : network_lasts.f per l0_1 l0_2 t x.f0 x.f1 x.f2 x.f3 x.f4 x.f5 = some v) :
    Calls Try.prog 39 #[.agg #[.int .i64 x.f0, .int .i64 x.f1, .int .i64 x.f2, .int .i64 x.f3, .int .i64 x.f4, .int .i64 x.f5], .pointer (some ⟨g2, 0, none⟩), .pointer (some ⟨g3, 0, none⟩)] W fun e w' => e = .returned (.bool (decide (x.f4 < v))) ∧ Below w.heap.size w w' := by
  replace hn0 := (hb.cell (p := ⟨g2, 0, none⟩) hg2).trans hn0
  replace hn1 := (hb.cell (p := ⟨g2, 1, none⟩) hg2).trans hn1
  replace hn2 := (hb.cell (p := ⟨g2, 2, none⟩) hg2).trans hn2
  replace ht := (hb.cell (p := ⟨g3, 0, none⟩) hg3).trans ht
  have hs := hb.size
  have ha2 : g2 < W.heap.size := Nat.lt_of_lt_of_le hg2 hs
  have ha3 : g3 < W.heap.size := Nat.lt_of_lt_of_le hg3 hs
  have hun := Try.underlying26
  have hua := Try.underlying31
  have K := Aside0.mk (fun (W' : World) (hW : Below w.heap.size w W') => network_lasts.calls per A0_1 c0_1 l0_1 A0_2 c0_2 l0_2 A1 c1 t x.f0 x.f1 x.f2 x.f3 x.f4 x.f5 v W' (Kd.C_below hr0_1 hW) hc0_1 (Kd.C_below hr0_2 hW) hc0_2 (Kd.C_below hr1 hW) hc1 hv)
  have HB := Aside0.mk hb
  have HS := Aside0.mk hs
  clear hv hr0_1 hr0_2 hr1 hc0_1 hc0_2 hc1 hb hg2 hg3 hs
  have hW1 : Below w.heap.size w (W.alloc (.cells #[.int .i64 x.f0, .int .i64 x.f1, .int .i64 x.f2, .int .i64 x.f3, .int .i64 x.f4, .int .i64 x.f5] 31)) := HB.out.alloc HS.out _
  have c0 : (W.alloc (.cells #[.int .i64 x.f0, .int .i64 x.f1, .int .i64 x.f2, .int .i64 x.f3, .int .i64 x.f4, .int .i64 x.f5] 31)).cell? ⟨g2, 0, none⟩ = some (.int .i64 per) := by go_simp
  have c1_ : (W.alloc (.cells #[.int .i64 x.f0, .int .i64 x.f1, .int .i64 x.f2, .int .i64 x.f3, .int .i64 x.f4, .int .i64 x.f5] 31)).cell? ⟨g2, 1, none⟩ = some (.slice A0_1 l0_1.length c0_1) := by go_simp
  have c2 : (W.alloc (.cells #[.int .i64 x.f0, .int .i64 x.f1, .int .i64 x.f2, .int .i64 x.f3, .int .i64 x.f4, .int .i64 x.f5] 31)).cell? ⟨g2, 2, none⟩ = some (.slice A0_2 l0_2.length c0_2) := by go_simp
  have c3 : (W.alloc (.cells #[.int .i64 x.f0, .int .i64 x.f1, .int .i64 x.f2, .int .i64 x.f3, .int .i64 x.f4, .int .i64 x.f5] 31)).cell? ⟨g3, 0, none⟩ = some (.slice A1 t.length c1) := by go_simp
  have hsz : (W.alloc (.cells #[.int .i64 x.f0, .int .i64 x.f1, .int .i64 x.f2, .int .i64 x.f3, .int .i64 x.f4, .int .i64 x.f5] 31)).heap.size = W.heap.size + 1 := by simp
  have d : ∀ i u, (#[Value.int .i64 x.f0, .int .i64 x.f1, .int .i64 x.f2, .int .i64 x.f3, .int .i64 x.f4, .int .i64 x.f5])[i]? = some u → (W.alloc (.cells #[.int .i64 x.f0, .int .i64 x.f1, .int .i64 x.f2, .int .i64 x.f3, .int .i64 x.f4, .int .i64 x.f5] 31)).cell? ⟨W.heap.size, i, none⟩ = some u := fun i u h => (blk_cell (blk_new W _) i).trans h
  go_enter Try.func39, Try.ntmps39
  go_wp2
  have D0 := d 0 _ rfl
  have D1 := d 1 _ rfl
  have D2 := d 2 _ rfl
  have D3 := d 3 _ rfl
  have D4 := d 4 _ rfl
  have D5 := d 5 _ rfl
  clear d
  generalize W.alloc (.cells #[.int .i64 x.f0, .int .i64 x.f1, .int .i64 x.f2, .int .i64 x.f3, .int .i64 x.f4, .int .i64 x.f5] 31) = W1 at *
  have SB : ∀ w' : World, Below W1.heap.size W1 w' → w'.cell? ⟨g2, 0, none⟩ = some (.int .i64 per) ∧ w'.cell? ⟨g2, 1, none⟩ = some (.slice A0_1 l0_1.length c0_1) ∧ w'.cell? ⟨g2, 2, none⟩ = some (.slice A0_2 l0_2.length c0_2) ∧ w'.cell? ⟨g3, 0, none⟩ = some (.slice A1 t.length c1) ∧
      w'.cell? ⟨W.heap.size, 0, none⟩ = some (.int .i64 x.f0) ∧ w'.cell? ⟨W.heap.size, 1, none⟩ = some (.int .i64 x.f1) ∧ w'.cell? ⟨W.heap.size, 2, none⟩ = some (.int .i64 x.f2) ∧ w'.cell? ⟨W.heap.size, 3, none⟩ = some (.int .i64 x.f3) ∧ w'.cell? ⟨W.heap.size, 4, none⟩ = some (.int .i64 x.f4) ∧ w'.cell? ⟨W.heap.size, 5, none⟩ = some (.int .i64 x.f5) ∧ Below W1.heap.size W1 w' := fun w' h =>
    ⟨pw_cell_below h c0, pw_cell_below h c1_, pw_cell_below h c2, pw_cell_below h c3, pw_cell_below h D0, pw_cell_below h D1, pw_cell_below h D2, pw_cell_below h D3, pw_cell_below h D4, pw_cell_below h D5, h⟩
  have K2 : ∀ W' : World, Below W1.heap.size W1 W' → Calls Try.prog 30 #[.agg #[.int .i64 per, .slice A0_1 l0_1.length c0_1, .slice A0_2 l0_2.length c0_2], .slice A1 t.length c1, .agg #[.int .i64 x.f0, .int .i64 x.f1, .int .i64 x.f2, .int .i64 x.f3, .int .i64 x.f4, .int .i64 x.f5]] W' fun e w' => e = .returned (.int .i64 v) ∧ Below W1.heap.size W1 w' := fun W' h =>
    (K.out W' (hW1.trans (h.mono hW1.size))).mono fun e w' ⟨he, hb⟩ => ⟨he, h.trans (hb.mono h.size)⟩
  have SBA := Aside0.mk SB
  have KA := Aside0.mk K2
  have HW1 := Aside0.mk hW1
  clear SB K2 K hW1 D0 D1 D2 D3 D4 D5 c0 c1_ c2 c3 hn0 hn1 hn2 ht HB
  go_region_held3 (fun w' => w'.cell? ⟨g2, 0, none⟩ = some (.int .i64 per) ∧ w'.cell? ⟨g2, 1, none⟩ = some (.slice A0_1 l0_1.length c0_1) ∧ w'.cell? ⟨g2, 2, none⟩ = some (.slice A0_2 l0_2.length c0_2) ∧ w'.cell? ⟨g3, 0, none⟩ = some (.slice A1 t.length c1) ∧
      w'.cell? ⟨W.heap.size, 0, none⟩ = some (.int .i64 x.f0) ∧ w'.cell? ⟨W.heap.size, 1, none⟩ = some (.int .i64 x.f1) ∧ w'.cell? ⟨W.heap.size, 2, none⟩ = some (.int .i64 x.f2) ∧ w'.cell? ⟨W.heap.size, 3, none⟩ = some (.int .i64 x.f3) ∧ w'.cell? ⟨W.heap.size, 4, none⟩ = some (.int .i64 x.f4) ∧ w'.cell? ⟨W.heap.size, 5, none⟩ = some (.int .i64 x.f5) ∧ Below W1.heap.size W1 w')
    (first | exact SBA.out _ (by assumption) | exact SBA.out _ (below_drew (Below.refl _ _)))
    (first | (go_at_call 30; refine (KA.out _ ?_).mono ?_; (exact below_drew (Below.refl _ _)); rintro e w' ⟨rfl, hb⟩))
  all_goals go_wp2
  go_ret
  exact ⟨rfl, HW1.out.trans (hb.mono HW1.out.size)⟩
def network_First.b (a0_0 : Int) (l0_1 : List S46) (l0_2 : List S31) (l1 : List Int) : Int × Bool :=
  if network_Good.b a0_0 l0_1 l0_2 l1 = true then (mx (act_ix (fun x => decide (x.f4 < network_lasts.v a0_0 l1 x)) l0_2) 0, decide (0 ≤ act_ix (fun x => decide (x.f4 < network_lasts.v a0_0 l1 x)) l0_2)) else (0, false)
def network_First.f (a0_0 : Int) (l0_1 : List S46) (l0_2 : List S31) (l1 : List Int) : Option (Int × Bool) := some (network_First.b a0_0 l0_1 l0_2 l1)
set_option maxHeartbeats 8000000 in
set_option maxRecDepth 100000 in
theorem network_First.calls (a0_0 : Int) (A0_1 : Option Addr) (c0_1 : Nat) (l0_1 : List S46) (A0_2 : Option Addr) (c0_2 : Nat) (l0_2 : List S31) (A1 : Option Addr) (c1 : Nat) (l1 : List Int) (r1 : Int) (r2 : Bool) (w : World) (hr0_1 : Kd.C k46 w A0_1 l0_1.length l0_1) (hc0_1 : l0_1.length ≤ c0_1) (hr0_2 : Kd.C k31 w A0_2 l0_2.length l0_2) (hc0_2 : l0_2.length ≤ c0_2) (hr1 : Kd.C (Kd.int .i64) w A1 l1.length l1) (hc1 : l1.length ≤ c1) (h : network_First.f a0_0 l0_1 l0_2 l1 = some (r1, r2)) :
    Calls Try.prog 24 #[.agg #[.int .i64 a0_0, .slice A0_1 l0_1.length c0_1, .slice A0_2 l0_2.length c0_2], .slice A1 l1.length c1] w fun e w' => e = .returned (.tuple #[.int .i64 r1, .bool r2]) ∧ Below w.heap.size w w' := by
  have hun := Try.underlying26
  have hmf : ∀ (fn : Fn) (first cap : Array Value) (w : World), (Instr.makeFunc fn first cap).run Try.prog w = .ok (.func fn first cap) w := fun _ _ _ _ => rfl
  have eg : ∀ args w, (callFunc 39 args).run Try.prog w = .ok (.enter 39 args) w := enters_of Try.func39 (by kernel_rfl) rfl
  have h' := Option.some.inj h
  clear h
  have hgd : ∀ (W : World), Below w.heap.size w W → Calls Try.prog 29 #[.agg #[.int .i64 a0_0, .slice A0_1 l0_1.length c0_1, .slice A0_2 l0_2.length c0_2], .slice A1 l1.length c1] W fun e w' => e = .returned (.bool (network_Good.b a0_0 l0_1 l0_2 l1)) ∧ Below W.heap.size W w' :=
    fun W hW => network_Good.calls a0_0 A0_1 c0_1 l0_1 A0_2 c0_2 l0_2 A1 c1 l1 _ W (Kd.C_below hr0_1 hW) hc0_1 (Kd.C_below hr0_2 hW) hc0_2 (Kd.C_below hr1 hW) hc1 rfl
  have HB := Aside0.mk (Below.refl w.heap.size w)
  unfold network_First.b at h'
  have his := fun h => network_Good.is (per := a0_0) (l0_1 := l0_1) (l0_2 := l0_2) (t := l1) h
  generalize network_Good.b a0_0 l0_1 l0_2 l1 = b at hgd h' his
  have KC := Aside0.mk hgd
  clear hgd
  cases b
  · rw [if_neg (by simp)] at h'
    obtain ⟨rfl, rfl⟩ := Prod.mk.inj h'
    clear h' his
    go_enter Try.func24, Try.ntmps24
    go_wp2_with (go_at_call 29; refine (KC.out _ (by repeat (first | (with_reducible first | exact HB.out | apply below_alloc | apply pw_below_drewN | apply below_drew1) | exact HB.out))).mono ?_; rintro e w' ⟨rfl, hb⟩)
    go_ret2
    exact ⟨rfl, (((Below.refl _ _).alloc (Nat.le_refl _) _).alloc (by simp) _).trans (hb.mono (by simp; omega))⟩
  · rw [if_pos rfl] at h'
    have IS := his rfl
    clear his
    have key : ∀ (W W2 : World) (g2 g3 : Nat), Below w.heap.size w W → g2 < W.heap.size → g3 < W.heap.size → W.cell? ⟨g2, 0, none⟩ = some (.int .i64 a0_0) → W.cell? ⟨g2, 1, none⟩ = some (.slice A0_1 l0_1.length c0_1) → W.cell? ⟨g2, 2, none⟩ = some (.slice A0_2 l0_2.length c0_2) → W.cell? ⟨g3, 0, none⟩ = some (.slice A1 l1.length c1) → Below W.heap.size W W2 →
        Calls Try.prog 38 #[.slice A0_2 l0_2.length c0_2, .func (.func 39) #[] #[.pointer (some ⟨g2, 0, none⟩), .pointer (some ⟨g3, 0, none⟩)]] W2 fun e w' => e = .returned (.int .i64 (act_ix (fun x => decide (x.f4 < network_lasts.v a0_0 l1 x)) l0_2)) ∧ Below w.heap.size w w' := by
      intro W W2 g2 g3 hW hg2 hg3 hn0 hn1 hn2 ht hW2
      refine (act_IndexFunc (fun x => decide (x.f4 < network_lasts.v a0_0 l1 x)) 39 #[.pointer (some ⟨g2, 0, none⟩), .pointer (some ⟨g3, 0, none⟩)] A0_2 c0_2 l0_2 W W2 hW2 eg (fun x V hx hV => ?_) (Kd.C_below hr0_2 hW)).mono ?_
      · obtain ⟨a, b, c, d, e, f, _⟩ := IS.ac x hx
        exact network_First.closure a0_0 A0_1 c0_1 l0_1 A0_2 c0_2 l0_2 A1 c1 l1 x g2 g3 W V hV hg2 hg3 (Kd.C_below hr0_1 hW) hc0_1 (Kd.C_below hr0_2 hW) hc0_2 (Kd.C_below hr1 hW) hc1 hn0 hn1 hn2 ht _ (network_lasts.eq a0_0 l0_1 l0_2 l1 x IS.p1 IS.p2 IS.ts a b ⟨d, by omega⟩)
      · rintro e w' ⟨rfl, hb⟩
        exact ⟨rfl, hW.trans (hb.mono hW.size)⟩
    have K := Aside0.mk key
    clear key IS
    generalize act_ix (fun x => decide (x.f4 < network_lasts.v a0_0 l1 x)) l0_2 = ix at K h'
    obtain ⟨rfl, rfl⟩ := Prod.mk.inj h'
    clear h'
    by_cases hix : ix < 0
    · have e1 : mx ix 0 = 0 := by unfold mx; omega
      have e2 : decide (ix < 0) = true := decide_eq_true hix
      rw [e1]
      clear e1
      go_enter Try.func24, Try.ntmps24
      go_wp2_with (go_at_call 29; refine (KC.out _ (by repeat (first | (with_reducible first | exact HB.out | apply below_alloc | apply pw_below_drewN | apply below_drew1) | exact HB.out))).mono ?_; rintro e w' ⟨rfl, hb⟩; have hc1_ := bcell2_ (A := w.heap.size + 2) hb (by simp))
      refine (K.out _ _ _ _ (by repeat (first | (with_reducible first | exact HB.out | apply below_alloc | apply pw_below_drewN | apply below_drew1) | exact HB.out)) (by first | (simp; done) | (simp; omega)) (by first | (simp; done) | (simp; omega)) (by first | (go_simp; done) | (simp; done)) (by first | (go_simp; done) | (simp; done)) (by first | (go_simp; done) | (simp; done)) (by first | (go_simp; done) | (simp; done)) hb).mono ?_
      rintro e w' ⟨rfl, hb2⟩
      go_wp2
      go_ret2
      exact ⟨rfl, hb2⟩
    · have e1 : mx ix 0 = ix := by unfold mx; omega
      have e2 : decide (ix < 0) = false := decide_eq_false hix
      rw [e1, show decide (0 ≤ ix) = true from decide_eq_true (by omega)]
      clear e1
      go_enter Try.func24, Try.ntmps24
      go_wp2_with (go_at_call 29; refine (KC.out _ (by repeat (first | (with_reducible first | exact HB.out | apply below_alloc | apply pw_below_drewN | apply below_drew1) | exact HB.out))).mono ?_; rintro e w' ⟨rfl, hb⟩; have hc1_ := bcell2_ (A := w.heap.size + 2) hb (by simp))
      refine (K.out _ _ _ _ (by repeat (first | (with_reducible first | exact HB.out | apply below_alloc | apply pw_below_drewN | apply below_drew1) | exact HB.out)) (by first | (simp; done) | (simp; omega)) (by first | (simp; done) | (simp; omega)) (by first | (go_simp; done) | (simp; done)) (by first | (go_simp; done) | (simp; done)) (by first | (go_simp; done) | (simp; done)) (by first | (go_simp; done) | (simp; done)) hb).mono ?_
      rintro e w' ⟨rfl, hb2⟩
      go_wp2
      go_ret2
      exact ⟨rfl, hb2⟩


end Go.Proofs.Ytapnkefhihgbbaa.PAll
