/- What calls of the Go functions below do, each under the premises that its theorem states. Laid by a program of the claimant, which drives the kit's print; some texts are written by hand. -/
import Derived.Test.YtjbemmngnigaiaaPAllx0
import Derived.Test.YtjbemmngnigaiaaPAllxf17
namespace Go.Proofs.Ytjbemmngnigaiaa.PAll
open Go.RowKit Go.Proofs.YtjbemmngnigaiaaW.PrintWords Go.Proofs.YtjbemmngnigaiaaW.PrintLast Go.Proofs.YtjbemmngnigaiaaW.PrintMore
attribute [local go_sem] max2_int min2_int max_two min_two max_three min_three max_four min_four   -- for this text's walks alone
set_option linter.unusedVariables false
set_option linter.unusedSimpArgs false

/-! ### occupancy_conflict: function 18 -/
mutual
def occupancy_conflict.l0 : Nat → Int → Int → Int → Int → Int → Int → Int → Int → Option (Bool)
  | 0, _, _, _, _, _, _, _, _ => none
  | k + 1, x7, x9, x11, x102000, x102001, x102002, x102003, x102004 => if x11 ≤ x9 then (if x11 = 0 then (occupancy_conflict.j1 k x7 x9 x11 false x102000 x102001 x102002 x102003 x102004) else (if x102004 = 0 then (occupancy_conflict.j1 k x7 x9 x11 true x102000 x102001 x102002 x102003 x102004) else (occupancy_conflict.j1 k x7 x9 x11 ((Int.tmod x11 x102004) != 0) x102000 x102001 x102002 x102003 x102004))) else (some false)
def occupancy_conflict.j1 : Nat → Int → Int → Int → Bool → Int → Int → Int → Int → Int → Option (Bool)
  | 0, _, _, _, _, _, _, _, _, _ => none
  | k + 1, x7, x9, x11, x69, x102000, x102001, x102002, x102003, x102004 => if x69 = true then (some true) else (if x102004 = 1 then (some false) else (if x11 > (wrap64 (x7 + 1)) then (some false) else (occupancy_conflict.l0 k x7 x9 (wrap64 (x11 + 1)) x102000 x102001 x102002 x102003 x102004)))
end
def occupancy_conflict.f (k : Nat) (a0 : Int) (a1_0 : Int) (a1_1 : Int) (a1_2 : Int) (a1_3 : Int) (a1_4 : Int) (a2_0 : Int) (a2_1 : Int) (a2_2 : Int) (a2_3 : Int) (a2_4 : Int) : Option (Bool) := (arith_FloorDiv.f (wrap64 ((wrap64 (a1_2 - a2_2)) - a2_3)) a0).bind fun bt103 => ((arith_CeilDiv.f (wrap64 ((wrap64 (a1_2 + a1_3)) - a2_2)) a0).bind fun bt105 => (if a1_1 = a2_1 then (occupancy_conflict.l0 k (wrap64 (bt103.1 + 1)) (wrap64 (bt105.1 - 1)) (wrap64 (bt103.1 + 1)) a1_0 a1_1 a1_2 a1_3 a1_4) else (some (decide ((wrap64 (bt103.1 + 1)) ≤ (wrap64 (bt105.1 - 1)))))))
theorem occupancy_conflict.mono_l : ∀ k, (∀ y0 y1 y2 y3 y4 y5 y6 y7, LeO (occupancy_conflict.l0 k y0 y1 y2 y3 y4 y5 y6 y7) (occupancy_conflict.l0 (k + 1) y0 y1 y2 y3 y4 y5 y6 y7)) ∧ (∀ y0 y1 y2 y3 y4 y5 y6 y7 y8, LeO (occupancy_conflict.j1 k y0 y1 y2 y3 y4 y5 y6 y7 y8) (occupancy_conflict.j1 (k + 1) y0 y1 y2 y3 y4 y5 y6 y7 y8))
  | 0 => ⟨fun _ _ _ _ _ _ _ _ r h => by simp [occupancy_conflict.l0] at h, fun _ _ _ _ _ _ _ _ _ r h => by simp [occupancy_conflict.j1] at h⟩
  | k + 1 => by
    obtain ⟨ih0, ih1⟩ := occupancy_conflict.mono_l k
    refine ⟨?_, ?_⟩
    · intro y0 y1 y2 y3 y4 y5 y6 y7
      unfold occupancy_conflict.l0
      repeat' first
      | (with_reducible exact ih0 _ _ _ _ _ _ _ _)
      | (with_reducible exact ih1 _ _ _ _ _ _ _ _ _)
      | (with_reducible exact LeO.refl _)
      | (with_reducible exact LeO.none _)
      | (with_reducible refine LeO.ite ?_ ?_)
      | (with_reducible refine LeO.bind ?_ (fun _ => ?_))
      | exact ih0 _ _ _ _ _ _ _ _
      | exact ih1 _ _ _ _ _ _ _ _ _
      | exact LeO.none _
      | refine LeO.ite ?_ ?_
      | refine LeO.bind ?_ (fun _ => ?_)
    · intro y0 y1 y2 y3 y4 y5 y6 y7 y8
      unfold occupancy_conflict.j1
      repeat' first
      | (with_reducible exact ih0 _ _ _ _ _ _ _ _)
      | (with_reducible exact ih1 _ _ _ _ _ _ _ _ _)
      | (with_reducible exact LeO.refl _)
      | (with_reducible exact LeO.none _)
      | (with_reducible refine LeO.ite ?_ ?_)
      | (with_reducible refine LeO.bind ?_ (fun _ => ?_))
      | exact ih0 _ _ _ _ _ _ _ _
      | exact ih1 _ _ _ _ _ _ _ _ _
      | exact LeO.none _
      | refine LeO.ite ?_ ?_
      | refine LeO.bind ?_ (fun _ => ?_)
theorem occupancy_conflict.mono : ∀ a0 a1 a2 a3 a4 a5 a6 a7 a8 a9 a10 k, LeO (occupancy_conflict.f k a0 a1 a2 a3 a4 a5 a6 a7 a8 a9 a10) (occupancy_conflict.f (k + 1) a0 a1 a2 a3 a4 a5 a6 a7 a8 a9 a10) := by
  intro a0 a1 a2 a3 a4 a5 a6 a7 a8 a9 a10 k
  obtain ⟨ih0, ih1⟩ := occupancy_conflict.mono_l k
  unfold occupancy_conflict.f
  repeat' first
      | (with_reducible exact ih0 _ _ _ _ _ _ _ _)
      | (with_reducible exact ih1 _ _ _ _ _ _ _ _ _)
      | (with_reducible exact LeO.refl _)
      | (with_reducible exact LeO.none _)
      | (with_reducible refine LeO.ite ?_ ?_)
      | (with_reducible refine LeO.bind ?_ (fun _ => ?_))
      | exact ih0 _ _ _ _ _ _ _ _
      | exact ih1 _ _ _ _ _ _ _ _ _
      | exact LeO.none _
      | refine LeO.ite ?_ ?_
      | refine LeO.bind ?_ (fun _ => ?_)
set_option maxHeartbeats 8000000 in
set_option maxRecDepth 100000 in
theorem occupancy_conflict.calls (k : Nat) (a0 : Int) (a1_0 : Int) (a1_1 : Int) (a1_2 : Int) (a1_3 : Int) (a1_4 : Int) (a2_0 : Int) (a2_1 : Int) (a2_2 : Int) (a2_3 : Int) (a2_4 : Int) (r : Bool) (w : World) (h : occupancy_conflict.f k a0 a1_0 a1_1 a1_2 a1_3 a1_4 a2_0 a2_1 a2_2 a2_3 a2_4 = some r) :
    Calls Try.prog 18 #[.int .i64 a0, .agg #[.int .i64 a1_0, .int .i64 a1_1, .int .i64 a1_2, .int .i64 a1_3, .int .i64 a1_4], .agg #[.int .i64 a2_0, .int .i64 a2_1, .int .i64 a2_2, .int .i64 a2_3, .int .i64 a2_4]] w fun e w' => e = .returned (.bool r) ∧ Below w.heap.size w w' := by
  have hu23 := Try.underlying23
  have HB := Aside0.mk (Below.refl w.heap.size w)
  have H : ((arith_FloorDiv.f (wrap64 ((wrap64 (a1_2 - a2_2)) - a2_3)) a0).bind fun bt103 => ((arith_CeilDiv.f (wrap64 ((wrap64 (a1_2 + a1_3)) - a2_2)) a0).bind fun bt105 => (if a1_1 = a2_1 then (occupancy_conflict.l0 k (wrap64 (bt103.1 + 1)) (wrap64 (bt105.1 - 1)) (wrap64 (bt103.1 + 1)) a1_0 a1_1 a1_2 a1_3 a1_4) else (some (decide ((wrap64 (bt103.1 + 1)) ≤ (wrap64 (bt105.1 - 1)))))))) = some r := h
  clear h
  replace H := Option.bind_eq_some_iff.mp H
  obtain ⟨⟨t103, t104⟩, A40, H⟩ := H
  replace H : ((arith_CeilDiv.f (wrap64 ((wrap64 (a1_2 + a1_3)) - a2_2)) a0).bind fun bt105 => (if a1_1 = a2_1 then (occupancy_conflict.l0 k (wrap64 (t103 + 1)) (wrap64 (bt105.1 - 1)) (wrap64 (t103 + 1)) a1_0 a1_1 a1_2 a1_3 a1_4) else (some (decide ((wrap64 (t103 + 1)) ≤ (wrap64 (bt105.1 - 1))))))) = some r := H
  have A4 := Aside0.mk A40
  clear A40
  replace H := Option.bind_eq_some_iff.mp H
  obtain ⟨⟨t105, t106⟩, A50, H⟩ := H
  replace H : (if a1_1 = a2_1 then (occupancy_conflict.l0 k (wrap64 (t103 + 1)) (wrap64 (t105 - 1)) (wrap64 (t103 + 1)) a1_0 a1_1 a1_2 a1_3 a1_4) else (some (decide ((wrap64 (t103 + 1)) ≤ (wrap64 (t105 - 1)))))) = some r := H
  have A5 := Aside0.mk A50
  clear A50
  by_cases c6 : a1_1 = a2_1
  · rw [if_pos c6] at H
    have c6b0 : (a1_1 == a2_1) = true := beq_iff_eq.mpr c6
    have c6b1 : (a1_1 != a2_1) = false := bne_eq_false_iff_eq.mpr c6
    clear c6
    have H' := Aside0.mk H
    clear H
    go_enter Try.func18, Try.ntmps18
    go_wp2_with (first | ((with_reducible refine gate_dst (N := 4) rfl ?_); refine box_event ?hg (N := 4) ?hd (cs := #[.int .i64 a1_0, .int .i64 a1_1, .int .i64 a1_2, .int .i64 a1_3, .int .i64 a1_4]) (t := 23) ?hr ?_; (case hd => rfl); (case hg => rfl); (case hr => first | (go_simp; done) | (go_simp; rfl)); intro gb101 hg w7 hbox hb; have n0_ := Aside0.mk (below_step (by repeat (first | (with_reducible first | exact HB.out | apply below_alloc | apply pw_below_drewN | apply below_drew1) | exact HB.out)) hb); have n1_ := Aside0.mk (hbox); have n2_ := Aside0.mk ((by rw [hg]; exact (below_size (by repeat (first | (with_reducible first | exact HB.out | apply below_alloc | apply pw_below_drewN | apply below_drew1) | exact HB.out))) : w.heap.size ≤ gb101)); have n3_ := Aside0.mk ((by rw [hg]; exact (below_size (by repeat (first | (with_reducible first | exact HB.out | apply below_alloc | apply pw_below_drewN | apply below_drew1) | exact HB.out))) : w.heap.size ≤ gb101)); clear HB; have HB := n0_; have BK101 := n1_; have GW101 := n2_; have GE101 := n3_; clear n0_ n1_ n2_ n3_; clear hb hbox hg) | ((with_reducible refine gate_dst (N := 5) rfl ?_); refine box_event ?hg (N := 5) ?hd (cs := #[.int .i64 a2_0, .int .i64 a2_1, .int .i64 a2_2, .int .i64 a2_3, .int .i64 a2_4]) (t := 23) ?hr ?_; (case hd => rfl); (case hg => rfl); (case hr => first | (go_simp; done) | (go_simp; rfl)); intro gb102 hg w8 hbox hb; have n0_ := Aside0.mk (blk_below (g := gb101) (o := .cells #[.int .i64 a1_0, .int .i64 a1_1, .int .i64 a1_2, .int .i64 a1_3, .int .i64 a1_4] 23 (0, 0)) (by (with_reducible repeat (first | refine blk_drewN ?_ _ | refine blk_drew ?_ | refine blk_alloc ?_ _)); exact BK101.out) hb); have n1_ := Aside0.mk (below_step (by repeat (first | (with_reducible first | exact HB.out | apply below_alloc | apply pw_below_drewN | apply below_drew1 | refine below_set ?_ GE101.out) | exact HB.out)) hb); have n2_ := Aside0.mk (hbox); have n3_ := Aside0.mk ((by rw [hg]; exact (below_size (by repeat (first | (with_reducible first | exact HB.out | apply below_alloc | apply pw_below_drewN | apply below_drew1 | refine below_set ?_ GE101.out) | exact HB.out))) : w.heap.size ≤ gb102)); have n4_ := Aside0.mk ((by rw [hg]; exact (below_size (by repeat (first | (with_reducible first | exact HB.out | apply below_alloc | apply pw_below_drewN | apply below_drew1 | refine below_set ?_ GE101.out) | exact HB.out))) : w.heap.size ≤ gb102)); have n5_ := Aside0.mk ((by rw [hg]; exact Nat.ne_of_lt (blk_lt (g := gb101) (o := .cells #[.int .i64 a1_0, .int .i64 a1_1, .int .i64 a1_2, .int .i64 a1_3, .int .i64 a1_4] 23 (0, 0)) (by (with_reducible repeat (first | refine blk_drewN ?_ _ | refine blk_drew ?_ | refine blk_alloc ?_ _)); exact BK101.out)) : gb101 ≠ gb102)); have n6_ := Aside0.mk ((by rw [hg]; exact Nat.ne_of_gt (blk_lt (g := gb101) (o := .cells #[.int .i64 a1_0, .int .i64 a1_1, .int .i64 a1_2, .int .i64 a1_3, .int .i64 a1_4] 23 (0, 0)) (by (with_reducible repeat (first | refine blk_drewN ?_ _ | refine blk_drew ?_ | refine blk_alloc ?_ _)); exact BK101.out)) : gb102 ≠ gb101)); clear BK101; clear HB; have BK101 := n0_; have HB := n1_; have BK102 := n2_; have GW102 := n3_; have GE102 := n4_; have NB101_102 := n5_; have NB102_101 := n6_; clear n0_ n1_ n2_ n3_ n4_ n5_ n6_; clear hb hbox hg; have hnb9 := NB101_102.out; have hnc9 := NB102_101.out; have hcz10_0 : w8.cell? ⟨gb101, 0, none⟩ = some (.int .i64 a1_0) := (blk_cell BK101.out 0).trans rfl; have hcz10_1 : w8.cell? ⟨gb101, 1, none⟩ = some (.int .i64 a1_1) := (blk_cell BK101.out 1).trans rfl; have hcz10_2 : w8.cell? ⟨gb101, 2, none⟩ = some (.int .i64 a1_2) := (blk_cell BK101.out 2).trans rfl; have hcz10_3 : w8.cell? ⟨gb101, 3, none⟩ = some (.int .i64 a1_3) := (blk_cell BK101.out 3).trans rfl; have hcz10_4 : w8.cell? ⟨gb101, 4, none⟩ = some (.int .i64 a1_4) := (blk_cell BK101.out 4).trans rfl; have hfz10_0 := blk_frozen BK101.out 0; have hfz10_1 := blk_frozen BK101.out 1; have hfz10_2 := blk_frozen BK101.out 2; have hfz10_3 := blk_frozen BK101.out 3; have hfz10_4 := blk_frozen BK101.out 4; have hcz11_0 : w8.cell? ⟨gb102, 0, none⟩ = some (.int .i64 a2_0) := (blk_cell BK102.out 0).trans rfl; have hcz11_1 : w8.cell? ⟨gb102, 1, none⟩ = some (.int .i64 a2_1) := (blk_cell BK102.out 1).trans rfl; have hcz11_2 : w8.cell? ⟨gb102, 2, none⟩ = some (.int .i64 a2_2) := (blk_cell BK102.out 2).trans rfl; have hcz11_3 : w8.cell? ⟨gb102, 3, none⟩ = some (.int .i64 a2_3) := (blk_cell BK102.out 3).trans rfl; have hcz11_4 : w8.cell? ⟨gb102, 4, none⟩ = some (.int .i64 a2_4) := (blk_cell BK102.out 4).trans rfl; have hfz11_0 := blk_frozen BK102.out 0; have hfz11_1 := blk_frozen BK102.out 1; have hfz11_2 := blk_frozen BK102.out 2; have hfz11_3 := blk_frozen BK102.out 3; have hfz11_4 := blk_frozen BK102.out 4) | ((with_reducible refine gate_callee (f := 30) rfl ?_); refine goesL_ (some 22) rfl rfl Try.func30 (by kernel_rfl) rfl #[.int .i64 (wrap64 ((wrap64 (a1_2 - a2_2)) - a2_3)), .int .i64 a0] rfl (by (try simp only [List.map_toArray, List.map_cons, List.map_nil]); first | done | rfl | (simp only [List.length_drop, List.length_take]; rfl)) ?_; (with_reducible refine (arith_FloorDiv.calls (wrap64 ((wrap64 (a1_2 - a2_2)) - a2_3)) a0 t103 t104 _ A4.out).mono ?_); rintro e w' ⟨rfl, ⟨nd, rfl⟩⟩; refine ⟨_, rfl, ?_⟩) | ((with_reducible refine gate_callee (f := 31) rfl ?_); refine goesL_ (some 35) rfl rfl Try.func31 (by kernel_rfl) rfl #[.int .i64 (wrap64 ((wrap64 (a1_2 + a1_3)) - a2_2)), .int .i64 a0] rfl (by (try simp only [List.map_toArray, List.map_cons, List.map_nil]); first | done | rfl | (simp only [List.length_drop, List.length_take]; rfl)) ?_; (with_reducible refine (arith_CeilDiv.calls (wrap64 ((wrap64 (a1_2 + a1_3)) - a2_2)) a0 t105 t106 _ A5.out).mono ?_); rintro e w' ⟨rfl, ⟨nd, rfl⟩⟩; refine ⟨_, rfl, ?_⟩))
    go_loopg [11] k (fun kq v11 w' => ∃ (x11_1 : Int), v11 = .int .i64 x11_1 ∧ Aside0 (occupancy_conflict.l0 kq (wrap64 (t103 + 1)) (wrap64 (t105 - 1)) x11_1 a1_0 a1_1 a1_2 a1_3 a1_4 = some r) ∧ Aside0 (kq ≤ k) ∧ Aside0 (w'.heap[gb101]? = some (.cells #[.int .i64 a1_0, .int .i64 a1_1, .int .i64 a1_2, .int .i64 a1_3, .int .i64 a1_4] 23 (0, 0))) ∧ Aside0 (w'.heap[gb102]? = some (.cells #[.int .i64 a2_0, .int .i64 a2_1, .int .i64 a2_2, .int .i64 a2_3, .int .i64 a2_4] 23 (0, 0))) ∧ Aside0 (Below w.heap.size w w'))
    case atStart => exact ⟨(wrap64 (t103 + 1)), (by first | rfl | (simp; done) | (simp [*]; done)), H', ⟨Nat.le_refl _⟩, ⟨by (with_reducible repeat (first | refine blk_drewN ?_ _ | refine blk_drew ?_ | refine blk_alloc ?_ _)); exact BK101.out⟩, ⟨by (with_reducible repeat (first | refine blk_drewN ?_ _ | refine blk_drew ?_ | refine blk_alloc ?_ _)); exact BK102.out⟩, ⟨by repeat (first | (with_reducible first | exact HB.out | apply below_alloc | apply pw_below_drewN | apply below_drew1 | refine below_set ?_ GE101.out | refine below_set ?_ GE102.out) | exact HB.out)⟩⟩
    case round =>
      clear H'
      try clear c1
      try clear p2
      try clear c3
      try clear c6
      try clear c6b0
      try clear c6b1
      try clear p6
      try clear c9
      try clear hcz10_0
      try clear hcz10_1
      try clear hcz10_2
      try clear hcz10_3
      try clear hcz10_4
      try clear hcz11_0
      try clear hcz11_1
      try clear hcz11_2
      try clear hcz11_3
      try clear hcz11_4
      try clear hfz10_0
      try clear hfz10_1
      try clear hfz10_2
      try clear hfz10_3
      try clear hfz10_4
      try clear hfz11_0
      try clear hfz11_1
      try clear hfz11_2
      try clear hfz11_3
      try clear hfz11_4
      obtain ⟨x11_1, rfl, HA, HK1, BK101, BK102, HB⟩ := hrel
      cases gk with
      | zero => exact absurd HA.out (by simp [occupancy_conflict.l0])
      | succ k1 =>
        have H := HA.out
        clear HA
        simp only [occupancy_conflict.l0] at H
        by_cases c12 : x11_1 ≤ (wrap64 (t105 - 1))
        · rw [if_pos c12] at H
          have c12b0 : decide (x11_1 ≤ (wrap64 (t105 - 1))) = true := decide_eq_true c12
          clear c12
          have HC13 := Aside0.mk H
          clear H
          go_upto_region 9 with (fail)
          go_cut [69] (fun v69 wc => ∃ (kq : Nat) (x69_12 : Bool), v69 = .bool x69_12 ∧ Aside0 (occupancy_conflict.j1 kq (wrap64 (t103 + 1)) (wrap64 (t105 - 1)) x11_1 x69_12 a1_0 a1_1 a1_2 a1_3 a1_4 = some r) ∧ Aside0 (kq ≤ k1) ∧ Aside0 (wc.heap[gb101]? = some (.cells #[.int .i64 a1_0, .int .i64 a1_1, .int .i64 a1_2, .int .i64 a1_3, .int .i64 a1_4] 23 (0, 0))) ∧ Aside0 (wc.heap[gb102]? = some (.cells #[.int .i64 a2_0, .int .i64 a2_1, .int .i64 a2_2, .int .i64 a2_3, .int .i64 a2_4] 23 (0, 0))) ∧ Aside0 (Below w.heap.size w wc))
          case first =>
            have H := HC13.out
            clear HC13
            by_cases c14 : x11_1 = 0
            · rw [if_pos c14] at H
              have c14b0 : (x11_1 == 0) = true := beq_iff_eq.mpr c14
              have c14b1 : (x11_1 != 0) = false := bne_eq_false_iff_eq.mpr c14
              clear c14
              (first | rw [c14b0] | (simp only [i64_w, i32_w]; rw [c14b0]) | skip)
              have H' := Aside0.mk H
              clear H
              go_wp2
              go_meet
              case rel => exact ⟨_, (false), (by first | rfl | (simp; done) | (simp [*]; done)), H', ⟨by have := HK1.out; first | omega | exact Nat.le_refl _⟩, ⟨by (with_reducible repeat (first | refine blk_drewN ?_ _ | refine blk_drew ?_ | refine blk_alloc ?_ _)); exact BK101.out⟩, ⟨by (with_reducible repeat (first | refine blk_drewN ?_ _ | refine blk_drew ?_ | refine blk_alloc ?_ _)); exact BK102.out⟩, ⟨by repeat (first | (with_reducible first | exact HB.out | apply below_alloc | apply pw_below_drewN | apply below_drew1 | refine below_set ?_ GE101.out | refine below_set ?_ GE102.out) | exact HB.out)⟩⟩
            · rw [if_neg c14] at H
              have c14b0 : (x11_1 == 0) = false := beq_eq_false_iff_ne.mpr c14
              have c14b1 : (x11_1 != 0) = true := bne_iff_ne.mpr c14
              (first | rw [c14b0] | (simp only [i64_w, i32_w]; rw [c14b0]) | skip)
              by_cases c15 : a1_4 = 0
              · rw [if_pos c15] at H
                have c15b0 : (a1_4 == 0) = true := beq_iff_eq.mpr c15
                have c15b1 : (a1_4 != 0) = false := bne_eq_false_iff_eq.mpr c15
                clear c15
                have H' := Aside0.mk H
                clear H
                have hnb16 := NB101_102.out
                have hnc16 := NB102_101.out
                have hcz17_0 : wr.cell? ⟨gb101, 0, none⟩ = some (.int .i64 a1_0) := (blk_cell BK101.out 0).trans rfl
                have hcz17_1 : wr.cell? ⟨gb101, 1, none⟩ = some (.int .i64 a1_1) := (blk_cell BK101.out 1).trans rfl
                have hcz17_2 : wr.cell? ⟨gb101, 2, none⟩ = some (.int .i64 a1_2) := (blk_cell BK101.out 2).trans rfl
                have hcz17_3 : wr.cell? ⟨gb101, 3, none⟩ = some (.int .i64 a1_3) := (blk_cell BK101.out 3).trans rfl
                have hcz17_4 : wr.cell? ⟨gb101, 4, none⟩ = some (.int .i64 a1_4) := (blk_cell BK101.out 4).trans rfl
                have hfz17_0 := blk_frozen BK101.out 0
                have hfz17_1 := blk_frozen BK101.out 1
                have hfz17_2 := blk_frozen BK101.out 2
                have hfz17_3 := blk_frozen BK101.out 3
                have hfz17_4 := blk_frozen BK101.out 4
                go_wp2
                go_meet
                case rel => exact ⟨_, (true), (by first | rfl | (simp; done) | (simp [*]; done)), H', ⟨by have := HK1.out; first | omega | exact Nat.le_refl _⟩, ⟨by (with_reducible repeat (first | refine blk_drewN ?_ _ | refine blk_drew ?_ | refine blk_alloc ?_ _)); exact BK101.out⟩, ⟨by (with_reducible repeat (first | refine blk_drewN ?_ _ | refine blk_drew ?_ | refine blk_alloc ?_ _)); exact BK102.out⟩, ⟨by repeat (first | (with_reducible first | exact HB.out | apply below_alloc | apply pw_below_drewN | apply below_drew1 | refine below_set ?_ GE101.out | refine below_set ?_ GE102.out) | exact HB.out)⟩⟩
              · rw [if_neg c15] at H
                have c15b0 : (a1_4 == 0) = false := beq_eq_false_iff_ne.mpr c15
                have c15b1 : (a1_4 != 0) = true := bne_iff_ne.mpr c15
                have H' := Aside0.mk H
                clear H
                have hnb18 := NB101_102.out
                have hnc18 := NB102_101.out
                have hcz19_0 : wr.cell? ⟨gb101, 0, none⟩ = some (.int .i64 a1_0) := (blk_cell BK101.out 0).trans rfl
                have hcz19_1 : wr.cell? ⟨gb101, 1, none⟩ = some (.int .i64 a1_1) := (blk_cell BK101.out 1).trans rfl
                have hcz19_2 : wr.cell? ⟨gb101, 2, none⟩ = some (.int .i64 a1_2) := (blk_cell BK101.out 2).trans rfl
                have hcz19_3 : wr.cell? ⟨gb101, 3, none⟩ = some (.int .i64 a1_3) := (blk_cell BK101.out 3).trans rfl
                have hcz19_4 : wr.cell? ⟨gb101, 4, none⟩ = some (.int .i64 a1_4) := (blk_cell BK101.out 4).trans rfl
                have hfz19_0 := blk_frozen BK101.out 0
                have hfz19_1 := blk_frozen BK101.out 1
                have hfz19_2 := blk_frozen BK101.out 2
                have hfz19_3 := blk_frozen BK101.out 3
                have hfz19_4 := blk_frozen BK101.out 4
                go_wp2
                go_meet
                case rel => exact ⟨_, (((Int.tmod x11_1 a1_4) != 0)), (by first | rfl | (simp; done) | (simp [*]; done)), H', ⟨by have := HK1.out; first | omega | exact Nat.le_refl _⟩, ⟨by (with_reducible repeat (first | refine blk_drewN ?_ _ | refine blk_drew ?_ | refine blk_alloc ?_ _)); exact BK101.out⟩, ⟨by (with_reducible repeat (first | refine blk_drewN ?_ _ | refine blk_drew ?_ | refine blk_alloc ?_ _)); exact BK102.out⟩, ⟨by repeat (first | (with_reducible first | exact HB.out | apply below_alloc | apply pw_below_drewN | apply below_drew1 | refine below_set ?_ GE101.out | refine below_set ?_ GE102.out) | exact HB.out)⟩⟩
          case rest =>
            clear HC13
            try clear c1
            try clear p2
            try clear c3
            try clear c6
            try clear c6b0
            try clear c6b1
            try clear p6
            try clear c9
            try clear c12
            try clear c12b0
            try clear c14
            try clear c14b0
            try clear c14b1
            try clear c15
            try clear c15b0
            try clear c15b1
            try clear c16
            try clear c18
            try clear hcz10_0
            try clear hcz10_1
            try clear hcz10_2
            try clear hcz10_3
            try clear hcz10_4
            try clear hcz11_0
            try clear hcz11_1
            try clear hcz11_2
            try clear hcz11_3
            try clear hcz11_4
            try clear hcz17_0
            try clear hcz17_1
            try clear hcz17_2
            try clear hcz17_3
            try clear hcz17_4
            try clear hcz19_0
            try clear hcz19_1
            try clear hcz19_2
            try clear hcz19_3
            try clear hcz19_4
            try clear hfz10_0
            try clear hfz10_1
            try clear hfz10_2
            try clear hfz10_3
            try clear hfz10_4
            try clear hfz11_0
            try clear hfz11_1
            try clear hfz11_2
            try clear hfz11_3
            try clear hfz11_4
            try clear hfz17_0
            try clear hfz17_1
            try clear hfz17_2
            try clear hfz17_3
            try clear hfz17_4
            try clear hfz19_0
            try clear hfz19_1
            try clear hfz19_2
            try clear hfz19_3
            try clear hfz19_4
            try clear p2
            try clear p6
            obtain ⟨kq, x69_12, rfl, HA, HJ12, BK101, BK102, HB⟩ := hcut
            cases kq with
            | zero => exact absurd HA.out (by simp [occupancy_conflict.j1])
            | succ kj12 =>
              have H := HA.out
              clear HA
              simp only [occupancy_conflict.j1] at H
              by_cases c20 : x69_12 = true
              · subst c20
                have H1 : (some true) = some r := by rw [if_pos rfl] at H; exact H
                clear H
                have H := H1
                clear H1
                obtain rfl := Option.some.inj H
                go_wp2
                go_ret
                exact ⟨by first | rfl | (simp [errW_none, errW_some] <;> rfl) | (simp [*, errW_none, errW_some] <;> rfl), by repeat (first | (with_reducible first | exact HB.out | apply below_alloc | apply pw_below_drewN | apply below_drew1 | refine below_set ?_ GE101.out | refine below_set ?_ GE102.out) | exact HB.out)⟩
              · replace c20 := Bool.eq_false_iff.mpr c20
                subst c20
                have H1 : (if a1_4 = 1 then (some false) else (if x11_1 > (wrap64 ((wrap64 (t103 + 1)) + 1)) then (some false) else (occupancy_conflict.l0 kj12 (wrap64 (t103 + 1)) (wrap64 (t105 - 1)) (wrap64 (x11_1 + 1)) a1_0 a1_1 a1_2 a1_3 a1_4))) = some r := by rw [if_neg (show ¬ (false = true) by decide)] at H; exact H
                clear H
                have H := H1
                clear H1
                by_cases c21 : a1_4 = 1
                · rw [if_pos c21] at H
                  have c21b0 : (a1_4 == 1) = true := beq_iff_eq.mpr c21
                  have c21b1 : (a1_4 != 1) = false := bne_eq_false_iff_eq.mpr c21
                  clear c21
                  obtain rfl := Option.some.inj H
                  have hnb22 := NB101_102.out
                  have hnc22 := NB102_101.out
                  have hcz23_0 : wc.cell? ⟨gb101, 0, none⟩ = some (.int .i64 a1_0) := (blk_cell BK101.out 0).trans rfl
                  have hcz23_1 : wc.cell? ⟨gb101, 1, none⟩ = some (.int .i64 a1_1) := (blk_cell BK101.out 1).trans rfl
                  have hcz23_2 : wc.cell? ⟨gb101, 2, none⟩ = some (.int .i64 a1_2) := (blk_cell BK101.out 2).trans rfl
                  have hcz23_3 : wc.cell? ⟨gb101, 3, none⟩ = some (.int .i64 a1_3) := (blk_cell BK101.out 3).trans rfl
                  have hcz23_4 : wc.cell? ⟨gb101, 4, none⟩ = some (.int .i64 a1_4) := (blk_cell BK101.out 4).trans rfl
                  have hfz23_0 := blk_frozen BK101.out 0
                  have hfz23_1 := blk_frozen BK101.out 1
                  have hfz23_2 := blk_frozen BK101.out 2
                  have hfz23_3 := blk_frozen BK101.out 3
                  have hfz23_4 := blk_frozen BK101.out 4
                  go_wp2
                  go_ret
                  exact ⟨by first | rfl | (simp [errW_none, errW_some] <;> rfl) | (simp [*, errW_none, errW_some] <;> rfl), by repeat (first | (with_reducible first | exact HB.out | apply below_alloc | apply pw_below_drewN | apply below_drew1 | refine below_set ?_ GE101.out | refine below_set ?_ GE102.out) | exact HB.out)⟩
                · rw [if_neg c21] at H
                  have c21b0 : (a1_4 == 1) = false := beq_eq_false_iff_ne.mpr c21
                  have c21b1 : (a1_4 != 1) = true := bne_iff_ne.mpr c21
                  by_cases c24 : x11_1 > (wrap64 ((wrap64 (t103 + 1)) + 1))
                  · rw [if_pos c24] at H
                    have c24b0 : decide ((wrap64 ((wrap64 (t103 + 1)) + 1)) < x11_1) = true := decide_eq_true c24
                    clear c24
                    obtain rfl := Option.some.inj H
                    have hnb25 := NB101_102.out
                    have hnc25 := NB102_101.out
                    have hcz26_0 : wc.cell? ⟨gb101, 0, none⟩ = some (.int .i64 a1_0) := (blk_cell BK101.out 0).trans rfl
                    have hcz26_1 : wc.cell? ⟨gb101, 1, none⟩ = some (.int .i64 a1_1) := (blk_cell BK101.out 1).trans rfl
                    have hcz26_2 : wc.cell? ⟨gb101, 2, none⟩ = some (.int .i64 a1_2) := (blk_cell BK101.out 2).trans rfl
                    have hcz26_3 : wc.cell? ⟨gb101, 3, none⟩ = some (.int .i64 a1_3) := (blk_cell BK101.out 3).trans rfl
                    have hcz26_4 : wc.cell? ⟨gb101, 4, none⟩ = some (.int .i64 a1_4) := (blk_cell BK101.out 4).trans rfl
                    have hfz26_0 := blk_frozen BK101.out 0
                    have hfz26_1 := blk_frozen BK101.out 1
                    have hfz26_2 := blk_frozen BK101.out 2
                    have hfz26_3 := blk_frozen BK101.out 3
                    have hfz26_4 := blk_frozen BK101.out 4
                    go_wp2
                    go_ret
                    exact ⟨by first | rfl | (simp [errW_none, errW_some] <;> rfl) | (simp [*, errW_none, errW_some] <;> rfl), by repeat (first | (with_reducible first | exact HB.out | apply below_alloc | apply pw_below_drewN | apply below_drew1 | refine below_set ?_ GE101.out | refine below_set ?_ GE102.out) | exact HB.out)⟩
                  · rw [if_neg c24] at H
                    have c24b0 : decide ((wrap64 ((wrap64 (t103 + 1)) + 1)) < x11_1) = false := decide_eq_false c24
                    clear c24
                    have H' := Aside0.mk H
                    clear H
                    have hnb27 := NB101_102.out
                    have hnc27 := NB102_101.out
                    have hcz28_0 : wc.cell? ⟨gb101, 0, none⟩ = some (.int .i64 a1_0) := (blk_cell BK101.out 0).trans rfl
                    have hcz28_1 : wc.cell? ⟨gb101, 1, none⟩ = some (.int .i64 a1_1) := (blk_cell BK101.out 1).trans rfl
                    have hcz28_2 : wc.cell? ⟨gb101, 2, none⟩ = some (.int .i64 a1_2) := (blk_cell BK101.out 2).trans rfl
                    have hcz28_3 : wc.cell? ⟨gb101, 3, none⟩ = some (.int .i64 a1_3) := (blk_cell BK101.out 3).trans rfl
                    have hcz28_4 : wc.cell? ⟨gb101, 4, none⟩ = some (.int .i64 a1_4) := (blk_cell BK101.out 4).trans rfl
                    have hfz28_0 := blk_frozen BK101.out 0
                    have hfz28_1 := blk_frozen BK101.out 1
                    have hfz28_2 := blk_frozen BK101.out 2
                    have hfz28_3 := blk_frozen BK101.out 3
                    have hfz28_4 := blk_frozen BK101.out 4
                    go_wp2
                    go_roundg kj12
                    case measure => have := HK1.out; have := HJ12.out; omega
                    case rel => exact ⟨(wrap64 (x11_1 + 1)), (by first | rfl | (simp; done) | (simp [*]; done)), H', ⟨by have := HK1.out; have := HJ12.out; omega⟩, ⟨by (with_reducible repeat (first | refine blk_drewN ?_ _ | refine blk_drew ?_ | refine blk_alloc ?_ _)); exact BK101.out⟩, ⟨by (with_reducible repeat (first | refine blk_drewN ?_ _ | refine blk_drew ?_ | refine blk_alloc ?_ _)); exact BK102.out⟩, ⟨by repeat (first | (with_reducible first | exact HB.out | apply below_alloc | apply pw_below_drewN | apply below_drew1 | refine below_set ?_ GE101.out | refine below_set ?_ GE102.out) | exact HB.out)⟩⟩
        · rw [if_neg c12] at H
          have c12b0 : decide (x11_1 ≤ (wrap64 (t105 - 1))) = false := decide_eq_false c12
          clear c12
          obtain rfl := Option.some.inj H
          go_wp2
          go_ret
          exact ⟨by first | rfl | (simp [errW_none, errW_some] <;> rfl) | (simp [*, errW_none, errW_some] <;> rfl), by repeat (first | (with_reducible first | exact HB.out | apply below_alloc | apply pw_below_drewN | apply below_drew1 | refine below_set ?_ GE101.out | refine below_set ?_ GE102.out) | exact HB.out)⟩
  · rw [if_neg c6] at H
    have c6b0 : (a1_1 == a2_1) = false := beq_eq_false_iff_ne.mpr c6
    have c6b1 : (a1_1 != a2_1) = true := bne_iff_ne.mpr c6
    obtain rfl := Option.some.inj H
    go_enter Try.func18, Try.ntmps18
    go_wp2_with (first | ((with_reducible refine gate_dst (N := 4) rfl ?_); refine box_event ?hg (N := 4) ?hd (cs := #[.int .i64 a1_0, .int .i64 a1_1, .int .i64 a1_2, .int .i64 a1_3, .int .i64 a1_4]) (t := 23) ?hr ?_; (case hd => rfl); (case hg => rfl); (case hr => first | (go_simp; done) | (go_simp; rfl)); intro gb101 hg w29 hbox hb; have n0_ := Aside0.mk (below_step (by repeat (first | (with_reducible first | exact HB.out | apply below_alloc | apply pw_below_drewN | apply below_drew1) | exact HB.out)) hb); have n1_ := Aside0.mk (hbox); have n2_ := Aside0.mk ((by rw [hg]; exact (below_size (by repeat (first | (with_reducible first | exact HB.out | apply below_alloc | apply pw_below_drewN | apply below_drew1) | exact HB.out))) : w.heap.size ≤ gb101)); have n3_ := Aside0.mk ((by rw [hg]; exact (below_size (by repeat (first | (with_reducible first | exact HB.out | apply below_alloc | apply pw_below_drewN | apply below_drew1) | exact HB.out))) : w.heap.size ≤ gb101)); clear HB; have HB := n0_; have BK101 := n1_; have GW101 := n2_; have GE101 := n3_; clear n0_ n1_ n2_ n3_; clear hb hbox hg) | ((with_reducible refine gate_dst (N := 5) rfl ?_); refine box_event ?hg (N := 5) ?hd (cs := #[.int .i64 a2_0, .int .i64 a2_1, .int .i64 a2_2, .int .i64 a2_3, .int .i64 a2_4]) (t := 23) ?hr ?_; (case hd => rfl); (case hg => rfl); (case hr => first | (go_simp; done) | (go_simp; rfl)); intro gb102 hg w30 hbox hb; have n0_ := Aside0.mk (blk_below (g := gb101) (o := .cells #[.int .i64 a1_0, .int .i64 a1_1, .int .i64 a1_2, .int .i64 a1_3, .int .i64 a1_4] 23 (0, 0)) (by (with_reducible repeat (first | refine blk_drewN ?_ _ | refine blk_drew ?_ | refine blk_alloc ?_ _)); exact BK101.out) hb); have n1_ := Aside0.mk (below_step (by repeat (first | (with_reducible first | exact HB.out | apply below_alloc | apply pw_below_drewN | apply below_drew1 | refine below_set ?_ GE101.out) | exact HB.out)) hb); have n2_ := Aside0.mk (hbox); have n3_ := Aside0.mk ((by rw [hg]; exact (below_size (by repeat (first | (with_reducible first | exact HB.out | apply below_alloc | apply pw_below_drewN | apply below_drew1 | refine below_set ?_ GE101.out) | exact HB.out))) : w.heap.size ≤ gb102)); have n4_ := Aside0.mk ((by rw [hg]; exact (below_size (by repeat (first | (with_reducible first | exact HB.out | apply below_alloc | apply pw_below_drewN | apply below_drew1 | refine below_set ?_ GE101.out) | exact HB.out))) : w.heap.size ≤ gb102)); have n5_ := Aside0.mk ((by rw [hg]; exact Nat.ne_of_lt (blk_lt (g := gb101) (o := .cells #[.int .i64 a1_0, .int .i64 a1_1, .int .i64 a1_2, .int .i64 a1_3, .int .i64 a1_4] 23 (0, 0)) (by (with_reducible repeat (first | refine blk_drewN ?_ _ | refine blk_drew ?_ | refine blk_alloc ?_ _)); exact BK101.out)) : gb101 ≠ gb102)); have n6_ := Aside0.mk ((by rw [hg]; exact Nat.ne_of_gt (blk_lt (g := gb101) (o := .cells #[.int .i64 a1_0, .int .i64 a1_1, .int .i64 a1_2, .int .i64 a1_3, .int .i64 a1_4] 23 (0, 0)) (by (with_reducible repeat (first | refine blk_drewN ?_ _ | refine blk_drew ?_ | refine blk_alloc ?_ _)); exact BK101.out)) : gb102 ≠ gb101)); clear BK101; clear HB; have BK101 := n0_; have HB := n1_; have BK102 := n2_; have GW102 := n3_; have GE102 := n4_; have NB101_102 := n5_; have NB102_101 := n6_; clear n0_ n1_ n2_ n3_ n4_ n5_ n6_; clear hb hbox hg; have hnb31 := NB101_102.out; have hnc31 := NB102_101.out; have hcz32_0 : w30.cell? ⟨gb101, 0, none⟩ = some (.int .i64 a1_0) := (blk_cell BK101.out 0).trans rfl; have hcz32_1 : w30.cell? ⟨gb101, 1, none⟩ = some (.int .i64 a1_1) := (blk_cell BK101.out 1).trans rfl; have hcz32_2 : w30.cell? ⟨gb101, 2, none⟩ = some (.int .i64 a1_2) := (blk_cell BK101.out 2).trans rfl; have hcz32_3 : w30.cell? ⟨gb101, 3, none⟩ = some (.int .i64 a1_3) := (blk_cell BK101.out 3).trans rfl; have hcz32_4 : w30.cell? ⟨gb101, 4, none⟩ = some (.int .i64 a1_4) := (blk_cell BK101.out 4).trans rfl; have hfz32_0 := blk_frozen BK101.out 0; have hfz32_1 := blk_frozen BK101.out 1; have hfz32_2 := blk_frozen BK101.out 2; have hfz32_3 := blk_frozen BK101.out 3; have hfz32_4 := blk_frozen BK101.out 4; have hcz33_0 : w30.cell? ⟨gb102, 0, none⟩ = some (.int .i64 a2_0) := (blk_cell BK102.out 0).trans rfl; have hcz33_1 : w30.cell? ⟨gb102, 1, none⟩ = some (.int .i64 a2_1) := (blk_cell BK102.out 1).trans rfl; have hcz33_2 : w30.cell? ⟨gb102, 2, none⟩ = some (.int .i64 a2_2) := (blk_cell BK102.out 2).trans rfl; have hcz33_3 : w30.cell? ⟨gb102, 3, none⟩ = some (.int .i64 a2_3) := (blk_cell BK102.out 3).trans rfl; have hcz33_4 : w30.cell? ⟨gb102, 4, none⟩ = some (.int .i64 a2_4) := (blk_cell BK102.out 4).trans rfl; have hfz33_0 := blk_frozen BK102.out 0; have hfz33_1 := blk_frozen BK102.out 1; have hfz33_2 := blk_frozen BK102.out 2; have hfz33_3 := blk_frozen BK102.out 3; have hfz33_4 := blk_frozen BK102.out 4) | ((with_reducible refine gate_callee (f := 30) rfl ?_); refine goesL_ (some 22) rfl rfl Try.func30 (by kernel_rfl) rfl #[.int .i64 (wrap64 ((wrap64 (a1_2 - a2_2)) - a2_3)), .int .i64 a0] rfl (by (try simp only [List.map_toArray, List.map_cons, List.map_nil]); first | done | rfl | (simp only [List.length_drop, List.length_take]; rfl)) ?_; (with_reducible refine (arith_FloorDiv.calls (wrap64 ((wrap64 (a1_2 - a2_2)) - a2_3)) a0 t103 t104 _ A4.out).mono ?_); rintro e w' ⟨rfl, ⟨nd, rfl⟩⟩; refine ⟨_, rfl, ?_⟩) | ((with_reducible refine gate_callee (f := 31) rfl ?_); refine goesL_ (some 35) rfl rfl Try.func31 (by kernel_rfl) rfl #[.int .i64 (wrap64 ((wrap64 (a1_2 + a1_3)) - a2_2)), .int .i64 a0] rfl (by (try simp only [List.map_toArray, List.map_cons, List.map_nil]); first | done | rfl | (simp only [List.length_drop, List.length_take]; rfl)) ?_; (with_reducible refine (arith_CeilDiv.calls (wrap64 ((wrap64 (a1_2 + a1_3)) - a2_2)) a0 t105 t106 _ A5.out).mono ?_); rintro e w' ⟨rfl, ⟨nd, rfl⟩⟩; refine ⟨_, rfl, ?_⟩))
    go_ret
    exact ⟨by first | rfl | (simp [errW_none, errW_some] <;> rfl) | (simp [*, errW_none, errW_some] <;> rfl), by repeat (first | (with_reducible first | exact HB.out | apply below_alloc | apply pw_below_drewN | apply below_drew1 | refine below_set ?_ GE101.out | refine below_set ?_ GE102.out) | exact HB.out)⟩

-- NOT PRINTED: function 7 (occupancy_Conflicts)

-- NOT PRINTED: function 8 (railplankeep_Same_2_int)

def kP : Kd (Int × Int) := Kd.pair (Kd.int .i64) (Kd.int .i64)
theorem kP_mk (w : World) (base : Nat) (ok : Nat → Prop) (i j : Int) : kP.M w base ok (i, j) [.int .i64 i, .int .i64 j] := ⟨[.int .i64 i], [.int .i64 j], rfl, rfl, rfl⟩
def hit (k : Nat) (t : Int) (a b : S23) : Option Bool := if a.f0 = b.f0 then occupancy_conflict.f k t a.f0 a.f1 a.f2 a.f3 a.f4 b.f0 b.f1 b.f2 b.f3 b.f4 else some false
def cflIn (k : Nat) (t : Int) (l : List S23) (i : Nat) : Nat → Nat → List (Int × Int) → Option (List (Int × Int))
  | 0, _, acc => some acc
  | d + 1, j, acc => (hit k t (rd_T23 l i) (rd_T23 l j)).bind fun b => if b = true then (if acc.length < 8796093022000 then cflIn k t l i d (j + 1) (acc ++ [((i : Int), (j : Int))]) else none) else cflIn k t l i d (j + 1) acc
def cflOut (k : Nat) (t : Int) (l : List S23) : Nat → Nat → List (Int × Int) → Option (List (Int × Int))
  | 0, _, acc => some acc
  | d + 1, i, acc => (cflIn k t l i (l.length - i) i acc).bind fun acc' => cflOut k t l d (i + 1) acc'

end Go.Proofs.Ytjbemmngnigaiaa.PAll
