/- What calls of the Go functions below do, each under the premises that its theorem states. Laid by a program of the claimant, which drives the kit's print; some texts are written by hand. -/
import Derived.Test.YtapnkefhihgbbaaPAllx0
import Derived.Test.YtapnkefhihgbbaaPAllxf25
import Derived.Test.YtapnkefhihgbbaaPAllxf45
namespace Go.Proofs.Ytapnkefhihgbbaa.PAll
open Go.RowKit Go.Proofs.YtapnkefhihgbbaaW.PrintWords Go.Proofs.YtapnkefhihgbbaaW.PrintLast Go.Proofs.YtapnkefhihgbbaaW.PrintMore
attribute [local go_sem] max2_int min2_int max_two min_two max_three min_three max_four min_four   -- for this text's walks alone
set_option linter.unusedVariables false
set_option linter.unusedSimpArgs false

/-! ### network_Cost: function 18 -/
def network_Cost.l0 : Nat → List Int → Int → List (S31) → Int → Int → Int → List (S46) → List (S31) → Option (Int × Int)
  | 0, _, _, _, _, _, _, _, _ => none
  | k + 1, x1, x6, x14, x15, x16, x220000, x220001, x220002 => if x16 < x15 then (if 0 ≤ x16 then (if x16 < (x14.length : Int) then ((network_lasts.f x220000 x220001 x220002 x1 ((rd_T31 x14 x16).f0) ((rd_T31 x14 x16).f1) ((rd_T31 x14 x16).f2) ((rd_T31 x14 x16).f3) ((rd_T31 x14 x16).f4) ((rd_T31 x14 x16).f5)).bind fun t223 => (network_Cost.l0 k x1 (wrap64 (x6 + (wrap64 (((rd_T31 x14 x16).f5) * t223)))) x14 x15 (wrap64 (x16 + 1)) x220000 x220001 x220002)) else (none)) else (none)) else (some (x6, 0))
def network_Cost.f (k : Nat) (a0_0 : Int) (l0_1 : List (S46)) (l0_2 : List (S31)) (l1 : List Int) : Option (Int × Int) := (network_Good.f a0_0 l0_1 l0_2 l1).bind fun t220 => (if t220 = true then (network_Cost.l0 k l1 0 l0_2 (l0_2.length : Int) 0 a0_0 l0_1 l0_2) else (some (0, 1)))
theorem network_Cost.mono_l : ∀ k, (∀ y0 y1 y2 y3 y4 y5 y6 y7, LeO (network_Cost.l0 k y0 y1 y2 y3 y4 y5 y6 y7) (network_Cost.l0 (k + 1) y0 y1 y2 y3 y4 y5 y6 y7))
  | 0 => fun _ _ _ _ _ _ _ _ r h => by simp [network_Cost.l0] at h
  | k + 1 => by
    have ih0 := network_Cost.mono_l k
    · intro y0 y1 y2 y3 y4 y5 y6 y7
      unfold network_Cost.l0
      repeat' first
      | (with_reducible exact ih0 _ _ _ _ _ _ _ _)
      | (with_reducible exact LeO.refl _)
      | (with_reducible exact LeO.none _)
      | (with_reducible refine LeO.ite ?_ ?_)
      | (with_reducible refine LeO.bind ?_ (fun _ => ?_))
      | exact ih0 _ _ _ _ _ _ _ _
      | exact LeO.none _
      | refine LeO.ite ?_ ?_
      | refine LeO.bind ?_ (fun _ => ?_)
theorem network_Cost.mono : ∀ a0 a1 a2 a3 k, LeO (network_Cost.f k a0 a1 a2 a3) (network_Cost.f (k + 1) a0 a1 a2 a3) := by
  intro a0 a1 a2 a3 k
  have ih0 := network_Cost.mono_l k
  unfold network_Cost.f
  repeat' first
      | (with_reducible exact ih0 _ _ _ _ _ _ _ _)
      | (with_reducible exact LeO.refl _)
      | (with_reducible exact LeO.none _)
      | (with_reducible refine LeO.ite ?_ ?_)
      | (with_reducible refine LeO.bind ?_ (fun _ => ?_))
      | exact ih0 _ _ _ _ _ _ _ _
      | exact LeO.none _
      | refine LeO.ite ?_ ?_
      | refine LeO.bind ?_ (fun _ => ?_)
def network_Cost.T7 : Bool × List (List Nat × List Nat) := (true, [([], []), ([], []), ([1], [1]), ([], []), ([], []), ([], []), ([3, 4, 5], [3, 4, 5]), ([2, 6], [2, 6]), ([0, 7], [0, 7]), ([8, 6, 0, 1, 2, 3, 4, 5, 6, 7, 8], [0, 8])])
def network_Cost.B7 : List Nat := [0, 0, 2, 0, 0, 0, 56, 126, 255, 511]
theorem network_Cost.tab7 : rtab .any (opsOf Try.f18 7) = network_Cost.T7 := by kernel_rfl
theorem network_Cost.bits7 : waitsOk network_Cost.T7.2 network_Cost.B7 = true := by kernel_rfl
set_option maxHeartbeats 8000000 in
set_option maxRecDepth 100000 in
theorem network_Cost.calls (k : Nat) (a0_0 : Int) (A0_1 : Option Addr) (c0_1 : Nat) (l0_1 : List (S46)) (A0_2 : Option Addr) (c0_2 : Nat) (l0_2 : List (S31)) (A1 : Option Addr) (c1 : Nat) (l1 : List Int) (r1 : Int) (r2 : Int) (w : World) (hr0_1 : Kd.C k46 w A0_1 l0_1.length l0_1) (hc0_1 : l0_1.length ≤ c0_1) (hr0_2 : Kd.C k31 w A0_2 l0_2.length l0_2) (hc0_2 : l0_2.length ≤ c0_2) (hr1 : Kd.C (Kd.int .i64) w A1 l1.length l1) (hc1 : l1.length ≤ c1) (h : network_Cost.f k a0_0 l0_1 l0_2 l1 = some (r1, r2)) :
    Calls Try.prog 18 #[.agg #[.int .i64 a0_0, .slice A0_1 l0_1.length c0_1, .slice A0_2 l0_2.length c0_2], .slice A1 l1.length c1] w fun e w' => e = .returned (.tuple #[.int .i64 r1, .int .i64 r2]) ∧ Below w.heap.size w w' := by
  have hu26 := Try.underlying26
  have hu31 := Try.underlying31
  have HR0_1 := Aside0.mk hr0_1
  have HC0_1 := Aside0.mk hc0_1
  clear hr0_1 hc0_1
  have HR0_2 := Aside0.mk hr0_2
  have HC0_2 := Aside0.mk hc0_2
  clear hr0_2 hc0_2
  have HR1 := Aside0.mk hr1
  have HC1 := Aside0.mk hc1
  clear hr1 hc1
  have HB := Aside0.mk (Below.refl w.heap.size w)
  have H : ((network_Good.f a0_0 l0_1 l0_2 l1).bind fun t220 => (if t220 = true then (network_Cost.l0 k l1 0 l0_2 (l0_2.length : Int) 0 a0_0 l0_1 l0_2) else (some (0, 1)))) = some (r1, r2) := h
  clear h
  replace H := Option.bind_eq_some_iff.mp H
  obtain ⟨t220, A30, H⟩ := H
  replace H : (if t220 = true then (network_Cost.l0 k l1 0 l0_2 (l0_2.length : Int) 0 a0_0 l0_1 l0_2) else (some (0, 1))) = some (r1, r2) := H
  have A3 := Aside0.mk A30
  clear A30
  by_cases c4 : t220 = true
  · subst c4
    have H1 : (network_Cost.l0 k l1 0 l0_2 (l0_2.length : Int) 0 a0_0 l0_1 l0_2) = some (r1, r2) := by rw [if_pos rfl] at H; exact H
    clear H
    have H := H1
    clear H1
    have H' := Aside0.mk H
    clear H
    go_enter Try.func18, Try.ntmps18
    go_wp2_with (first | ((with_reducible refine gate_dst (N := 2) rfl ?_); refine box_event ?hg (N := 2) ?hd (cs := #[.int .i64 a0_0, .slice A0_1 l0_1.length c0_1, .slice A0_2 l0_2.length c0_2]) (t := 26) ?hr ?_; (case hd => rfl); (case hg => rfl); (case hr => first | (go_simp; done) | (go_simp; rfl)); intro gb219 hg w5 hbox hb; have n0_ := Aside0.mk (below_step (by repeat (first | (with_reducible first | exact HB.out | apply below_alloc | apply pw_below_drewN | apply below_drew1) | exact HB.out)) hb); have n1_ := Aside0.mk (hbox); have n2_ := Aside0.mk ((by rw [hg]; exact (below_size (by repeat (first | (with_reducible first | exact HB.out | apply below_alloc | apply pw_below_drewN | apply below_drew1) | exact HB.out))) : w.heap.size ≤ gb219)); have n3_ := Aside0.mk ((by rw [hg]; exact (below_size (by repeat (first | (with_reducible first | exact HB.out | apply below_alloc | apply pw_below_drewN | apply below_drew1) | exact HB.out))) : w.heap.size ≤ gb219)); clear HB; have HB := n0_; have BK219 := n1_; have GW219 := n2_; have GE219 := n3_; clear n0_ n1_ n2_ n3_; clear hb hbox hg; have hcz6_0 : w5.cell? ⟨gb219, 0, none⟩ = some (.int .i64 a0_0) := (blk_cell BK219.out 0).trans rfl; have hcz6_1 : w5.cell? ⟨gb219, 1, none⟩ = some (.slice A0_1 l0_1.length c0_1) := (blk_cell BK219.out 1).trans rfl; have hcz6_2 : w5.cell? ⟨gb219, 2, none⟩ = some (.slice A0_2 l0_2.length c0_2) := (blk_cell BK219.out 2).trans rfl; have hfz6_0 := blk_frozen BK219.out 0; have hfz6_1 := blk_frozen BK219.out 1; have hfz6_2 := blk_frozen BK219.out 2) | ((with_reducible refine gate_callee (f := 29) rfl ?_); refine goesL_ (some 11) rfl rfl Try.func29 (by kernel_rfl) rfl #[.agg #[.int .i64 a0_0, .slice A0_1 l0_1.length c0_1, .slice A0_2 l0_2.length c0_2], .slice A1 l1.length c1] rfl (by (try simp only [List.map_toArray, List.map_cons, List.map_nil]); first | done | rfl | (simp only [List.length_drop, List.length_take]; rfl)) ?_; (with_reducible refine (network_Good.calls a0_0 _ _ l0_1 _ _ l0_2 _ _ l1 true _ ?side1 ?side2 ?side3 ?side4 ?side5 ?side6 A3.out).mono ?_); (case side1 => repeat (first | exact (Kd.C_below HR0_1.out HB.out) | (with_reducible refine Kd.C_alloc ?_ _) | (with_reducible refine Kd.C_drewN ?_ _) | (with_reducible refine Kd.C_drew ?_))); (case side2 => exact HC0_1.out); (case side3 => repeat (first | exact (Kd.C_below HR0_2.out HB.out) | (with_reducible refine Kd.C_alloc ?_ _) | (with_reducible refine Kd.C_drewN ?_ _) | (with_reducible refine Kd.C_drew ?_))); (case side4 => exact HC0_2.out); (case side5 => repeat (first | exact (Kd.C_below HR1.out HB.out) | (with_reducible refine Kd.C_alloc ?_ _) | (with_reducible refine Kd.C_drewN ?_ _) | (with_reducible refine Kd.C_drew ?_))); (case side6 => exact HC1.out); rintro e w7 ⟨rfl, hb⟩; refine ⟨_, rfl, ?_⟩; have n0_ := Aside0.mk (blk_below (g := gb219) (o := .cells #[.int .i64 a0_0, .slice A0_1 l0_1.length c0_1, .slice A0_2 l0_2.length c0_2] 26 (0, 0)) (by (with_reducible repeat (first | refine blk_drewN ?_ _ | refine blk_drew ?_ | refine blk_alloc ?_ _)); exact BK219.out) hb); have n1_ := Aside0.mk (below_step (by repeat (first | (with_reducible first | exact HB.out | apply below_alloc | apply pw_below_drewN | apply below_drew1 | refine below_set ?_ GE219.out) | exact HB.out)) hb); clear BK219; clear HB; have BK219 := n0_; have HB := n1_; clear n0_ n1_; (try clear hb); (try clear hb2); (try clear hk); (try clear hi); have hcz8_0 : w7.cell? ⟨gb219, 0, none⟩ = some (.int .i64 a0_0) := (blk_cell BK219.out 0).trans rfl; have hcz8_1 : w7.cell? ⟨gb219, 1, none⟩ = some (.slice A0_1 l0_1.length c0_1) := (blk_cell BK219.out 1).trans rfl; have hcz8_2 : w7.cell? ⟨gb219, 2, none⟩ = some (.slice A0_2 l0_2.length c0_2) := (blk_cell BK219.out 2).trans rfl; have hfz8_0 := blk_frozen BK219.out 0; have hfz8_1 := blk_frozen BK219.out 1; have hfz8_2 := blk_frozen BK219.out 2))
    go_loopg [6, 16] k (fun kq v6 v16 w' => ∃ (x6_1 : Int) (x16_1 : Int), v6 = .int .i64 x6_1 ∧ v16 = .int .i64 x16_1 ∧ Aside0 (network_Cost.l0 kq l1 x6_1 l0_2 (l0_2.length : Int) x16_1 a0_0 l0_1 l0_2 = some (r1, r2)) ∧ Aside0 (kq ≤ k) ∧ Aside0 (w'.heap[gb219]? = some (.cells #[.int .i64 a0_0, (.slice A0_1 l0_1.length c0_1), (.slice A0_2 l0_2.length c0_2)] 26 (0, 0))) ∧ Aside0 (Below w.heap.size w w'))
    case atStart => exact ⟨(0), (0), (by first | rfl | (simp; done) | (simp [*]; done)), (by first | rfl | (simp; done) | (simp [*]; done)), H', ⟨Nat.le_refl _⟩, ⟨by (with_reducible repeat (first | refine blk_drewN ?_ _ | refine blk_drew ?_ | refine blk_alloc ?_ _)); exact BK219.out⟩, ⟨by repeat (first | (with_reducible first | exact HB.out | apply below_alloc | apply pw_below_drewN | apply below_drew1 | refine below_set ?_ GE219.out) | exact HB.out)⟩⟩
    case round =>
      clear H'
      try clear c1
      try clear c2
      try clear p2
      try clear c4
      try clear hcz6_0
      try clear hcz6_1
      try clear hcz6_2
      try clear hcz8_0
      try clear hcz8_1
      try clear hcz8_2
      try clear hfz6_0
      try clear hfz6_1
      try clear hfz6_2
      try clear hfz8_0
      try clear hfz8_1
      try clear hfz8_2
      obtain ⟨x6_1, x16_1, rfl, rfl, HA, HK1, BK219, HB⟩ := hrel
      cases gk with
      | zero => exact absurd HA.out (by simp [network_Cost.l0])
      | succ k1 =>
        have H := HA.out
        clear HA
        simp only [network_Cost.l0] at H
        by_cases c9 : x16_1 < (l0_2.length : Int)
        · rw [if_pos c9] at H
          have c9b0 : decide (x16_1 < (l0_2.length : Int)) = true := decide_eq_true c9
          clear c9
          by_cases c10 : 0 ≤ x16_1
          · rw [if_pos c10] at H
            have c10b0 : decide (0 ≤ x16_1) = true := decide_eq_true c10
            clear c10
            by_cases c11 : x16_1 < (l0_2.length : Int)
            · rw [if_pos c11] at H
              have c11b0 : decide (x16_1 < (l0_2.length : Int)) = true := decide_eq_true c11
              clear c11
              replace H := Option.bind_eq_some_iff.mp H
              obtain ⟨t223, A120, H⟩ := H
              replace H : (network_Cost.l0 k1 l1 (wrap64 (x6_1 + (wrap64 (((rd_T31 l0_2 x16_1).f5) * t223)))) l0_2 (l0_2.length : Int) (wrap64 (x16_1 + 1)) a0_0 l0_1 l0_2) = some (r1, r2) := H
              have A12 := Aside0.mk A120
              clear A120
              have H' := Aside0.mk H
              clear H
              have p221 : 0 ≤ (x16_1 : Int) := of_decide_eq_true (by first | (with_reducible assumption) | assumption)
              have q221 : x16_1 < (l0_2.length : Int) := of_decide_eq_true (by first | (with_reducible assumption) | assumption)
              obtain ⟨ad221, e221, hx221_0, hx221_1, hx221_2, hx221_3, hx221_4, hx221_5⟩ := at_T31 HR0_2.out x16_1 p221 q221
              cases e221
              replace hx221_0 := (HB.out.cell (World.block_lt_of_cell? w _ hx221_0)).trans hx221_0
              replace hx221_1 := (HB.out.cell (World.block_lt_of_cell? w _ hx221_1)).trans hx221_1
              replace hx221_2 := (HB.out.cell (World.block_lt_of_cell? w _ hx221_2)).trans hx221_2
              replace hx221_3 := (HB.out.cell (World.block_lt_of_cell? w _ hx221_3)).trans hx221_3
              replace hx221_4 := (HB.out.cell (World.block_lt_of_cell? w _ hx221_4)).trans hx221_4
              replace hx221_5 := (HB.out.cell (World.block_lt_of_cell? w _ hx221_5)).trans hx221_5
              replace p221 := eq_true p221
              replace q221 := eq_true q221
              try go_wp2_with (first | ((with_reducible refine gate_dst (N := 8) rfl ?_); refine box_event ?hg (N := 8) ?hd (cs := #[.int .i64 0, .int .i64 0, .int .i64 0, .int .i64 0, .int .i64 0, .int .i64 0]) (t := 31) ?hr ?_; (case hd => rfl); (case hg => rfl); (case hr => first | (go_simp; done) | (go_simp; rfl)); intro gb222 hg w13 hbox hb; have n0_ := Aside0.mk (blk_below (g := gb219) (o := .cells #[.int .i64 a0_0, .slice A0_1 l0_1.length c0_1, .slice (some ad221) l0_2.length c0_2] 26 (0, 0)) (by (with_reducible repeat (first | refine blk_drewN ?_ _ | refine blk_drew ?_ | refine blk_alloc ?_ _)); exact BK219.out) hb); have n1_ := Aside0.mk (below_step (by repeat (first | (with_reducible first | exact HB.out | apply below_alloc | apply pw_below_drewN | apply below_drew1 | refine below_set ?_ GE219.out) | exact HB.out)) hb); have n2_ := Aside0.mk (hbox); have n3_ := Aside0.mk ((by rw [hg]; exact (below_size (by repeat (first | (with_reducible first | exact HB.out | apply below_alloc | apply pw_below_drewN | apply below_drew1 | refine below_set ?_ GE219.out) | exact HB.out))) : w.heap.size ≤ gb222)); have n4_ := Aside0.mk ((by rw [hg]; exact (below_size (by repeat (first | (with_reducible first | exact HB.out | apply below_alloc | apply pw_below_drewN | apply below_drew1 | refine below_set ?_ GE219.out) | exact HB.out))) : w.heap.size ≤ gb222)); have n5_ := Aside0.mk ((by rw [hg]; exact Nat.ne_of_lt (blk_lt (g := gb219) (o := .cells #[.int .i64 a0_0, .slice A0_1 l0_1.length c0_1, .slice (some ad221) l0_2.length c0_2] 26 (0, 0)) (by (with_reducible repeat (first | refine blk_drewN ?_ _ | refine blk_drew ?_ | refine blk_alloc ?_ _)); exact BK219.out)) : gb219 ≠ gb222)); have n6_ := Aside0.mk ((by rw [hg]; exact Nat.ne_of_gt (blk_lt (g := gb219) (o := .cells #[.int .i64 a0_0, .slice A0_1 l0_1.length c0_1, .slice (some ad221) l0_2.length c0_2] 26 (0, 0)) (by (with_reducible repeat (first | refine blk_drewN ?_ _ | refine blk_drew ?_ | refine blk_alloc ?_ _)); exact BK219.out)) : gb222 ≠ gb219)); clear BK219; clear HB; have BK219 := n0_; have HB := n1_; have BK222 := n2_; have GW222 := n3_; have GE222 := n4_; have NB219_222 := n5_; have NB222_219 := n6_; clear n0_ n1_ n2_ n3_ n4_ n5_ n6_; clear hb hbox hg; have hnb14 := NB222_219.out; have hnc14 := NB219_222.out; have hcz15_0 : w13.cell? ⟨gb222, 0, none⟩ = some (.int .i64 0) := (blk_cell BK222.out 0).trans rfl; have hcz15_1 : w13.cell? ⟨gb222, 1, none⟩ = some (.int .i64 0) := (blk_cell BK222.out 1).trans rfl; have hcz15_2 : w13.cell? ⟨gb222, 2, none⟩ = some (.int .i64 0) := (blk_cell BK222.out 2).trans rfl; have hcz15_3 : w13.cell? ⟨gb222, 3, none⟩ = some (.int .i64 0) := (blk_cell BK222.out 3).trans rfl; have hcz15_4 : w13.cell? ⟨gb222, 4, none⟩ = some (.int .i64 0) := (blk_cell BK222.out 4).trans rfl; have hcz15_5 : w13.cell? ⟨gb222, 5, none⟩ = some (.int .i64 0) := (blk_cell BK222.out 5).trans rfl; have hfz15_0 := blk_frozen BK222.out 0; have hfz15_1 := blk_frozen BK222.out 1; have hfz15_2 := blk_frozen BK222.out 2; have hfz15_3 := blk_frozen BK222.out 3; have hfz15_4 := blk_frozen BK222.out 4; have hfz15_5 := blk_frozen BK222.out 5))
              have n0_ : Aside0 (((((((w13.setCell ⟨gb222, 0, none⟩ (.int .i64 ((rd_T31 l0_2 x16_1).f0))).setCell ⟨gb222, 1, none⟩ (.int .i64 ((rd_T31 l0_2 x16_1).f1))).setCell ⟨gb222, 2, none⟩ (.int .i64 ((rd_T31 l0_2 x16_1).f2))).setCell ⟨gb222, 3, none⟩ (.int .i64 ((rd_T31 l0_2 x16_1).f3))).setCell ⟨gb222, 4, none⟩ (.int .i64 ((rd_T31 l0_2 x16_1).f4))).setCell ⟨gb222, 5, none⟩ (.int .i64 ((rd_T31 l0_2 x16_1).f5))).heap[gb219]? = some (.cells #[.int .i64 a0_0, .slice A0_1 l0_1.length c0_1, .slice (some ad221) l0_2.length c0_2] 26 (0, 0))) := ⟨by (with_reducible repeat (first | refine blk_drewN ?_ _ | refine blk_drew ?_ | refine blk_alloc ?_ _)); refine blk_far ?_ NB219_222.out _; (with_reducible repeat (first | refine blk_drewN ?_ _ | refine blk_drew ?_ | refine blk_alloc ?_ _)); refine blk_far ?_ NB219_222.out _; (with_reducible repeat (first | refine blk_drewN ?_ _ | refine blk_drew ?_ | refine blk_alloc ?_ _)); refine blk_far ?_ NB219_222.out _; (with_reducible repeat (first | refine blk_drewN ?_ _ | refine blk_drew ?_ | refine blk_alloc ?_ _)); refine blk_far ?_ NB219_222.out _; (with_reducible repeat (first | refine blk_drewN ?_ _ | refine blk_drew ?_ | refine blk_alloc ?_ _)); refine blk_far ?_ NB219_222.out _; (with_reducible repeat (first | refine blk_drewN ?_ _ | refine blk_drew ?_ | refine blk_alloc ?_ _)); refine blk_far ?_ NB219_222.out _; (with_reducible repeat (first | refine blk_drewN ?_ _ | refine blk_drew ?_ | refine blk_alloc ?_ _)); exact BK219.out⟩
              have n1_ : Aside0 (((((((w13.setCell ⟨gb222, 0, none⟩ (.int .i64 ((rd_T31 l0_2 x16_1).f0))).setCell ⟨gb222, 1, none⟩ (.int .i64 ((rd_T31 l0_2 x16_1).f1))).setCell ⟨gb222, 2, none⟩ (.int .i64 ((rd_T31 l0_2 x16_1).f2))).setCell ⟨gb222, 3, none⟩ (.int .i64 ((rd_T31 l0_2 x16_1).f3))).setCell ⟨gb222, 4, none⟩ (.int .i64 ((rd_T31 l0_2 x16_1).f4))).setCell ⟨gb222, 5, none⟩ (.int .i64 ((rd_T31 l0_2 x16_1).f5))).heap[gb222]? = some (.cells #[.int .i64 ((rd_T31 l0_2 x16_1).f0), .int .i64 ((rd_T31 l0_2 x16_1).f1), .int .i64 ((rd_T31 l0_2 x16_1).f2), .int .i64 ((rd_T31 l0_2 x16_1).f3), .int .i64 ((rd_T31 l0_2 x16_1).f4), .int .i64 ((rd_T31 l0_2 x16_1).f5)] 31 (0, 0))) := ⟨by (with_reducible repeat (first | refine blk_drewN ?_ _ | refine blk_drew ?_ | refine blk_alloc ?_ _)); refine blk_put (cs := #[.int .i64 ((rd_T31 l0_2 x16_1).f0), .int .i64 ((rd_T31 l0_2 x16_1).f1), .int .i64 ((rd_T31 l0_2 x16_1).f2), .int .i64 ((rd_T31 l0_2 x16_1).f3), .int .i64 ((rd_T31 l0_2 x16_1).f4), .int .i64 0]) ?_ 5 _ rfl; (with_reducible repeat (first | refine blk_drewN ?_ _ | refine blk_drew ?_ | refine blk_alloc ?_ _)); refine blk_put (cs := #[.int .i64 ((rd_T31 l0_2 x16_1).f0), .int .i64 ((rd_T31 l0_2 x16_1).f1), .int .i64 ((rd_T31 l0_2 x16_1).f2), .int .i64 ((rd_T31 l0_2 x16_1).f3), .int .i64 0, .int .i64 0]) ?_ 4 _ rfl; (with_reducible repeat (first | refine blk_drewN ?_ _ | refine blk_drew ?_ | refine blk_alloc ?_ _)); refine blk_put (cs := #[.int .i64 ((rd_T31 l0_2 x16_1).f0), .int .i64 ((rd_T31 l0_2 x16_1).f1), .int .i64 ((rd_T31 l0_2 x16_1).f2), .int .i64 0, .int .i64 0, .int .i64 0]) ?_ 3 _ rfl; (with_reducible repeat (first | refine blk_drewN ?_ _ | refine blk_drew ?_ | refine blk_alloc ?_ _)); refine blk_put (cs := #[.int .i64 ((rd_T31 l0_2 x16_1).f0), .int .i64 ((rd_T31 l0_2 x16_1).f1), .int .i64 0, .int .i64 0, .int .i64 0, .int .i64 0]) ?_ 2 _ rfl; (with_reducible repeat (first | refine blk_drewN ?_ _ | refine blk_drew ?_ | refine blk_alloc ?_ _)); refine blk_put (cs := #[.int .i64 ((rd_T31 l0_2 x16_1).f0), .int .i64 0, .int .i64 0, .int .i64 0, .int .i64 0, .int .i64 0]) ?_ 1 _ rfl; (with_reducible repeat (first | refine blk_drewN ?_ _ | refine blk_drew ?_ | refine blk_alloc ?_ _)); refine blk_put (cs := #[.int .i64 0, .int .i64 0, .int .i64 0, .int .i64 0, .int .i64 0, .int .i64 0]) ?_ 0 _ rfl; (with_reducible repeat (first | refine blk_drewN ?_ _ | refine blk_drew ?_ | refine blk_alloc ?_ _)); exact BK222.out⟩
              have n2_ : Aside0 (Below w.heap.size w ((((((w13.setCell ⟨gb222, 0, none⟩ (.int .i64 ((rd_T31 l0_2 x16_1).f0))).setCell ⟨gb222, 1, none⟩ (.int .i64 ((rd_T31 l0_2 x16_1).f1))).setCell ⟨gb222, 2, none⟩ (.int .i64 ((rd_T31 l0_2 x16_1).f2))).setCell ⟨gb222, 3, none⟩ (.int .i64 ((rd_T31 l0_2 x16_1).f3))).setCell ⟨gb222, 4, none⟩ (.int .i64 ((rd_T31 l0_2 x16_1).f4))).setCell ⟨gb222, 5, none⟩ (.int .i64 ((rd_T31 l0_2 x16_1).f5)))) := ⟨by repeat (first | (with_reducible first | exact HB.out | apply below_alloc | apply pw_below_drewN | apply below_drew1 | refine below_set ?_ GE219.out | refine below_set ?_ GE222.out) | exact HB.out)⟩
              (try clear BK219)
              (try clear BK222)
              (try clear HB)
              (try simp only [show ∀ (w_ : World) (n_ : Nat) (p_ : Addr) (v_ : Value), (w_.drewN n_).setCell p_ v_ = (w_.setCell p_ v_).drewN n_ from fun _ _ _ _ => rfl])
              generalize ((((((w13.setCell ⟨gb222, 0, none⟩ (.int .i64 ((rd_T31 l0_2 x16_1).f0))).setCell ⟨gb222, 1, none⟩ (.int .i64 ((rd_T31 l0_2 x16_1).f1))).setCell ⟨gb222, 2, none⟩ (.int .i64 ((rd_T31 l0_2 x16_1).f2))).setCell ⟨gb222, 3, none⟩ (.int .i64 ((rd_T31 l0_2 x16_1).f3))).setCell ⟨gb222, 4, none⟩ (.int .i64 ((rd_T31 l0_2 x16_1).f4))).setCell ⟨gb222, 5, none⟩ (.int .i64 ((rd_T31 l0_2 x16_1).f5))) = w16 at n0_ n1_ n2_ ⊢
              have BK219 := n0_
              have BK222 := n1_
              have HB := n2_
              clear n0_ n1_ n2_
              have n0_ := Aside0.mk (blk_drew BK219.out)
              have n1_ := Aside0.mk (blk_drew BK222.out)
              have n2_ := Aside0.mk (below_drew1 HB.out)
              clear BK219
              clear BK222
              clear HB
              have BK219 := n0_
              have BK222 := n1_
              have HB := n2_
              clear n0_ n1_ n2_
              refine start_ (n := 10) (S := fun w' => w'.cell? ⟨gb222, 0, none⟩ = some (.int .i64 ((rd_T31 l0_2 x16_1).f0)) ∧ w'.cell? ⟨gb222, 1, none⟩ = some (.int .i64 ((rd_T31 l0_2 x16_1).f1)) ∧ w'.cell? ⟨gb222, 2, none⟩ = some (.int .i64 ((rd_T31 l0_2 x16_1).f2)) ∧ w'.cell? ⟨gb222, 3, none⟩ = some (.int .i64 ((rd_T31 l0_2 x16_1).f3)) ∧ w'.cell? ⟨gb222, 4, none⟩ = some (.int .i64 ((rd_T31 l0_2 x16_1).f4)) ∧ w'.cell? ⟨gb222, 5, none⟩ = some (.int .i64 ((rd_T31 l0_2 x16_1).f5)) ∧ w'.cell? ⟨gb219, 0, none⟩ = some (.int .i64 a0_0) ∧ w'.cell? ⟨gb219, 1, none⟩ = some (.slice A0_1 l0_1.length c0_1) ∧ w'.cell? ⟨gb219, 2, none⟩ = some (.slice (some ad221) l0_2.length c0_2)) (ds := []) #[false, false, false, false, false, false, false, false, false, false] (by kernel_rfl) rfl rfl ⟨(blk_cell BK222.out 0).trans rfl, (blk_cell BK222.out 1).trans rfl, (blk_cell BK222.out 2).trans rfl, (blk_cell BK222.out 3).trans rfl, (blk_cell BK222.out 4).trans rfl, (blk_cell BK222.out 5).trans rfl, (blk_cell BK219.out 0).trans rfl, (blk_cell BK219.out 1).trans rfl, (blk_cell BK219.out 2).trans rfl⟩ (fun hHeld => ?_); refine with_tabW network_Cost.tab7 network_Cost.bits7 (fun HT_ HW_ => ?_)
              generalize w16.drew = w17 at BK219 BK222 HB hHeld ⊢
              refine pure_ (i := 0) (N := some 20) (v := ?_) (a' := ?_) #[true, false, false, false, false, false, false, false, false, false] rfl rfl (any_of HT_.out (by kernel_rfl)) (fun _ _ _ h => h) (Or.inl ⟨by rfl, ?_⟩) ?_ ?_
              rotate_left
              · intro w'
                go_simp
                with_reducible rfl
              rotate_left
              · simp only [Act.put, List.setIfInBounds_toArray, List.set_cons_zero, List.set_cons_succ, i64_w, i32_w]
                rfl
              refine pure_ (i := 1) (N := some 21) (v := ?_) (a' := ?_) #[true, true, false, false, false, false, false, false, false, false] rfl rfl (any_of HT_.out (by kernel_rfl)) (fun _ _ _ h => h) (Or.inl ⟨by rfl, ?_⟩) ?_ ?_
              rotate_left
              · intro w'
                go_simp
                with_reducible rfl
              rotate_left
              · simp only [Act.put, List.setIfInBounds_toArray, List.set_cons_zero, List.set_cons_succ, i64_w, i32_w]
                rfl
              refine pure_ (i := 4) (N := some 24) (v := ?_) (a' := ?_) #[true, true, false, false, true, false, false, false, false, false] rfl rfl (any_of HT_.out (by kernel_rfl)) (fun _ _ _ h => h) (Or.inl ⟨by rfl, ?_⟩) ?_ ?_
              rotate_left
              · intro w'
                go_simp
                with_reducible rfl
              rotate_left
              · simp only [Act.put, List.setIfInBounds_toArray, List.set_cons_zero, List.set_cons_succ, i64_w, i32_w]
                rfl
              refine take_ (i := 2) (N := some 22) (v := ?_) (a' := ?_) #[true, true, true, false, true, false, false, false, false, false] rfl rfl (take_ofW HT_.out HW_.out (by kernel_rfl)) (fun _ _ _ h => h) (Or.inl ⟨by rfl, ?_⟩) hHeld ?_ ?_
              rotate_left
              · rintro w' ⟨s0, s1, s2, s3, s4, s5, s6, s7, s8⟩
                go_simp
                with_reducible rfl
              rotate_left
              · simp only [Act.put, List.setIfInBounds_toArray, List.set_cons_zero, List.set_cons_succ, i64_w, i32_w]
                rfl
              refine take_ (i := 3) (N := some 23) (v := ?_) (a' := ?_) #[true, true, true, true, true, false, false, false, false, false] rfl rfl (take_ofW HT_.out HW_.out (by kernel_rfl)) (fun _ _ _ h => h) (Or.inl ⟨by rfl, ?_⟩) hHeld ?_ ?_
              rotate_left
              · rintro w' ⟨s0, s1, s2, s3, s4, s5, s6, s7, s8⟩
                go_simp
                with_reducible rfl
              rotate_left
              · simp only [Act.put, List.setIfInBounds_toArray, List.set_cons_zero, List.set_cons_succ, i64_w, i32_w]
                rfl
              refine take_ (i := 5) (N := some 25) (v := ?_) (a' := ?_) #[true, true, true, true, true, true, false, false, false, false] rfl rfl (take_ofW HT_.out HW_.out (by kernel_rfl)) (fun _ _ _ h => h) (Or.inl ⟨by rfl, ?_⟩) hHeld ?_ ?_
              rotate_left
              · rintro w' ⟨s0, s1, s2, s3, s4, s5, s6, s7, s8⟩
                go_simp
                with_reducible rfl
              rotate_left
              · simp only [Act.put, List.setIfInBounds_toArray, List.set_cons_zero, List.set_cons_succ, i64_w, i32_w]
                rfl
              refine one_ (i := 6) (N := some 26) #[true, true, true, true, true, true, true, false, false, false] rfl rfl (one_of HT_.out (by kernel_rfl)) (by decide) (fun K hK => ?_)
              refine goes_ Try.func30 (by kernel_rfl) rfl #[.agg #[.int .i64 a0_0, .slice A0_1 l0_1.length c0_1, .slice (some ad221) l0_2.length c0_2], .slice A1 l1.length c1, .agg #[.int .i64 ((rd_T31 l0_2 x16_1).f0), .int .i64 ((rd_T31 l0_2 x16_1).f1), .int .i64 ((rd_T31 l0_2 x16_1).f2), .int .i64 ((rd_T31 l0_2 x16_1).f3), .int .i64 ((rd_T31 l0_2 x16_1).f4), .int .i64 ((rd_T31 l0_2 x16_1).f5)]] (by rfl) rfl rfl (by (try simp only [List.map_toArray, List.map_cons, List.map_nil]); first | done | rfl | (simp only [List.length_drop, List.length_take]; rfl)) ?_
              with_reducible refine (network_lasts.calls a0_0 _ _ l0_1 _ _ l0_2 _ _ l1 ((rd_T31 l0_2 x16_1).f0) ((rd_T31 l0_2 x16_1).f1) ((rd_T31 l0_2 x16_1).f2) ((rd_T31 l0_2 x16_1).f3) ((rd_T31 l0_2 x16_1).f4) ((rd_T31 l0_2 x16_1).f5) t223 _ ?side1 ?side2 ?side3 ?side4 ?side5 ?side6 A12.out).mono ?_
              (case side1 => repeat (first | exact (Kd.C_below HR0_1.out HB.out) | (with_reducible refine Kd.C_alloc ?_ _) | (with_reducible refine Kd.C_drewN ?_ _) | (with_reducible refine Kd.C_drew ?_)))
              (case side2 => exact HC0_1.out)
              (case side3 => repeat (first | exact (Kd.C_below HR0_2.out HB.out) | (with_reducible refine Kd.C_alloc ?_ _) | (with_reducible refine Kd.C_drewN ?_ _) | (with_reducible refine Kd.C_drew ?_)))
              (case side4 => exact HC0_2.out)
              (case side5 => repeat (first | exact (Kd.C_below HR1.out HB.out) | (with_reducible refine Kd.C_alloc ?_ _) | (with_reducible refine Kd.C_drewN ?_ _) | (with_reducible refine Kd.C_drew ?_)))
              (case side6 => exact HC1.out)
              rintro e w18 ⟨rfl, hb⟩
              refine ⟨_, rfl, ?_⟩
              have n0_ := Aside0.mk (blk_below (g := gb219) (o := .cells #[.int .i64 a0_0, .slice A0_1 l0_1.length c0_1, .slice (some ad221) l0_2.length c0_2] 26 (0, 0)) (by (with_reducible repeat (first | refine blk_drewN ?_ _ | refine blk_drew ?_ | refine blk_alloc ?_ _)); exact BK219.out) hb)
              have n1_ := Aside0.mk (blk_below (g := gb222) (o := .cells #[.int .i64 ((rd_T31 l0_2 x16_1).f0), .int .i64 ((rd_T31 l0_2 x16_1).f1), .int .i64 ((rd_T31 l0_2 x16_1).f2), .int .i64 ((rd_T31 l0_2 x16_1).f3), .int .i64 ((rd_T31 l0_2 x16_1).f4), .int .i64 ((rd_T31 l0_2 x16_1).f5)] 31 (0, 0)) (by (with_reducible repeat (first | refine blk_drewN ?_ _ | refine blk_drew ?_ | refine blk_alloc ?_ _)); exact BK222.out) hb)
              have n2_ := Aside0.mk (below_step (by repeat (first | (with_reducible first | exact HB.out | apply below_alloc | apply pw_below_drewN | apply below_drew1 | refine below_set ?_ GE219.out | refine below_set ?_ GE222.out) | exact HB.out)) hb)
              clear BK219
              clear BK222
              clear HB
              have BK219 := n0_
              have BK222 := n1_
              have HB := n2_
              clear n0_ n1_ n2_
              (try clear hb)
              (try clear hb2)
              (try clear hk)
              (try clear hi)
              refine hK.out _ _ ⟨(blk_cell BK222.out 0).trans rfl, (blk_cell BK222.out 1).trans rfl, (blk_cell BK222.out 2).trans rfl, (blk_cell BK222.out 3).trans rfl, (blk_cell BK222.out 4).trans rfl, (blk_cell BK222.out 5).trans rfl, (blk_cell BK219.out 0).trans rfl, (blk_cell BK219.out 1).trans rfl, (blk_cell BK219.out 2).trans rfl⟩ (fun hHeld => ?_)
              clear hK K
              refine norm_ (a' := ?_) ?_ ?_
              rotate_left
              · show Act.put _ (some 26) _ = _
                simp only [Act.put, List.setIfInBounds_toArray, List.set_cons_zero, List.set_cons_succ, i64_w, i32_w]
                rfl
              refine pure_ (i := 7) (N := some 27) (v := ?_) (a' := ?_) #[true, true, true, true, true, true, true, true, false, false] rfl rfl (any_of HT_.out (by kernel_rfl)) (fun _ _ _ h => h) (Or.inl ⟨by rfl, ?_⟩) ?_ ?_
              rotate_left
              · intro w'
                go_simp
                with_reducible rfl
              rotate_left
              · simp only [Act.put, List.setIfInBounds_toArray, List.set_cons_zero, List.set_cons_succ, i64_w, i32_w]
                rfl
              refine pure_ (i := 8) (N := some 28) (v := ?_) (a' := ?_) #[true, true, true, true, true, true, true, true, true, false] rfl rfl (any_of HT_.out (by kernel_rfl)) (fun _ _ _ h => h) (Or.inl ⟨by rfl, ?_⟩) ?_ ?_
              rotate_left
              · intro w'
                go_simp
                with_reducible rfl
              rotate_left
              · simp only [Act.put, List.setIfInBounds_toArray, List.set_cons_zero, List.set_cons_succ, i64_w, i32_w]
                rfl
              refine pure_ (i := 9) (N := some 6) (v := ?_) (a' := ?_) #[true, true, true, true, true, true, true, true, true, true] rfl rfl (any_of HT_.out (by kernel_rfl)) (fun _ _ _ h => h) (Or.inl ⟨by rfl, ?_⟩) ?_ ?_
              rotate_left
              · intro w'
                go_simp
                with_reducible rfl
              rotate_left
              · simp only [Act.put, List.setIfInBounds_toArray, List.set_cons_zero, List.set_cons_succ, i64_w, i32_w]
                rfl
              refine done_ (done_of HT_.out (by kernel_rfl)) ?_
              try go_wp2
              go_roundg k1
              case measure => have := HK1.out; omega
              case rel => exact ⟨(wrap64 (x6_1 + (wrap64 (((rd_T31 l0_2 x16_1).f5) * t223)))), (wrap64 (x16_1 + 1)), (by first | rfl | (simp; done) | (simp [*]; done)), (by first | rfl | (simp; done) | (simp [*]; done)), H', ⟨by have := HK1.out; omega⟩, ⟨by (with_reducible repeat (first | refine blk_drewN ?_ _ | refine blk_drew ?_ | refine blk_alloc ?_ _)); exact BK219.out⟩, ⟨by repeat (first | (with_reducible first | exact HB.out | apply below_alloc | apply pw_below_drewN | apply below_drew1 | refine below_set ?_ GE219.out | refine below_set ?_ GE222.out) | exact HB.out)⟩⟩
            · rw [if_neg c11] at H
              exact absurd H (by simp)
          · rw [if_neg c10] at H
            exact absurd H (by simp)
        · rw [if_neg c9] at H
          have c9b0 : decide (x16_1 < (l0_2.length : Int)) = false := decide_eq_false c9
          clear c9
          simp only [Option.some.injEq, Prod.mk.injEq] at H
          obtain ⟨rfl, rfl⟩ := H
          go_wp2
          go_ret2
          exact ⟨by first | rfl | (simp [errW_none, errW_some] <;> rfl) | (simp [*, errW_none, errW_some] <;> rfl), by repeat (first | (with_reducible first | exact HB.out | apply below_alloc | apply pw_below_drewN | apply below_drew1 | refine below_set ?_ GE219.out) | exact HB.out)⟩
  · replace c4 := Bool.eq_false_iff.mpr c4
    subst c4
    have H1 : (some (0, 1)) = some (r1, r2) := by rw [if_neg (show ¬ (false = true) by decide)] at H; exact H
    clear H
    have H := H1
    clear H1
    simp only [Option.some.injEq, Prod.mk.injEq] at H
    obtain ⟨rfl, rfl⟩ := H
    go_enter Try.func18, Try.ntmps18
    go_wp2_with (first | ((with_reducible refine gate_dst (N := 2) rfl ?_); refine box_event ?hg (N := 2) ?hd (cs := #[.int .i64 a0_0, .slice A0_1 l0_1.length c0_1, .slice A0_2 l0_2.length c0_2]) (t := 26) ?hr ?_; (case hd => rfl); (case hg => rfl); (case hr => first | (go_simp; done) | (go_simp; rfl)); intro gb219 hg w19 hbox hb; have n0_ := Aside0.mk (below_step (by repeat (first | (with_reducible first | exact HB.out | apply below_alloc | apply pw_below_drewN | apply below_drew1) | exact HB.out)) hb); have n1_ := Aside0.mk (hbox); have n2_ := Aside0.mk ((by rw [hg]; exact (below_size (by repeat (first | (with_reducible first | exact HB.out | apply below_alloc | apply pw_below_drewN | apply below_drew1) | exact HB.out))) : w.heap.size ≤ gb219)); have n3_ := Aside0.mk ((by rw [hg]; exact (below_size (by repeat (first | (with_reducible first | exact HB.out | apply below_alloc | apply pw_below_drewN | apply below_drew1) | exact HB.out))) : w.heap.size ≤ gb219)); clear HB; have HB := n0_; have BK219 := n1_; have GW219 := n2_; have GE219 := n3_; clear n0_ n1_ n2_ n3_; clear hb hbox hg; have hcz20_0 : w19.cell? ⟨gb219, 0, none⟩ = some (.int .i64 a0_0) := (blk_cell BK219.out 0).trans rfl; have hcz20_1 : w19.cell? ⟨gb219, 1, none⟩ = some (.slice A0_1 l0_1.length c0_1) := (blk_cell BK219.out 1).trans rfl; have hcz20_2 : w19.cell? ⟨gb219, 2, none⟩ = some (.slice A0_2 l0_2.length c0_2) := (blk_cell BK219.out 2).trans rfl; have hfz20_0 := blk_frozen BK219.out 0; have hfz20_1 := blk_frozen BK219.out 1; have hfz20_2 := blk_frozen BK219.out 2) | ((with_reducible refine gate_callee (f := 29) rfl ?_); refine goesL_ (some 11) rfl rfl Try.func29 (by kernel_rfl) rfl #[.agg #[.int .i64 a0_0, .slice A0_1 l0_1.length c0_1, .slice A0_2 l0_2.length c0_2], .slice A1 l1.length c1] rfl (by (try simp only [List.map_toArray, List.map_cons, List.map_nil]); first | done | rfl | (simp only [List.length_drop, List.length_take]; rfl)) ?_; (with_reducible refine (network_Good.calls a0_0 _ _ l0_1 _ _ l0_2 _ _ l1 false _ ?side1 ?side2 ?side3 ?side4 ?side5 ?side6 A3.out).mono ?_); (case side1 => repeat (first | exact (Kd.C_below HR0_1.out HB.out) | (with_reducible refine Kd.C_alloc ?_ _) | (with_reducible refine Kd.C_drewN ?_ _) | (with_reducible refine Kd.C_drew ?_))); (case side2 => exact HC0_1.out); (case side3 => repeat (first | exact (Kd.C_below HR0_2.out HB.out) | (with_reducible refine Kd.C_alloc ?_ _) | (with_reducible refine Kd.C_drewN ?_ _) | (with_reducible refine Kd.C_drew ?_))); (case side4 => exact HC0_2.out); (case side5 => repeat (first | exact (Kd.C_below HR1.out HB.out) | (with_reducible refine Kd.C_alloc ?_ _) | (with_reducible refine Kd.C_drewN ?_ _) | (with_reducible refine Kd.C_drew ?_))); (case side6 => exact HC1.out); rintro e w21 ⟨rfl, hb⟩; refine ⟨_, rfl, ?_⟩; have n0_ := Aside0.mk (blk_below (g := gb219) (o := .cells #[.int .i64 a0_0, .slice A0_1 l0_1.length c0_1, .slice A0_2 l0_2.length c0_2] 26 (0, 0)) (by (with_reducible repeat (first | refine blk_drewN ?_ _ | refine blk_drew ?_ | refine blk_alloc ?_ _)); exact BK219.out) hb); have n1_ := Aside0.mk (below_step (by repeat (first | (with_reducible first | exact HB.out | apply below_alloc | apply pw_below_drewN | apply below_drew1 | refine below_set ?_ GE219.out) | exact HB.out)) hb); clear BK219; clear HB; have BK219 := n0_; have HB := n1_; clear n0_ n1_; (try clear hb); (try clear hb2); (try clear hk); (try clear hi)))
    go_ret2
    exact ⟨by first | rfl | (simp [errW_none, errW_some] <;> rfl) | (simp [*, errW_none, errW_some] <;> rfl), by repeat (first | (with_reducible first | exact HB.out | apply below_alloc | apply pw_below_drewN | apply below_drew1 | refine below_set ?_ GE219.out) | exact HB.out)⟩

end Go.Proofs.Ytapnkefhihgbbaa.PAll
