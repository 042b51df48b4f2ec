/- What calls of the Go functions below do, each under the premises that its theorem states. Laid by a program of the claimant, which drives the kit's print; some texts are written by hand. -/
import Derived.Test.YtapnkefhihgbbaaPAllx0
import Derived.Test.YtapnkefhihgbbaaPAllxf10
import Derived.Test.YtapnkefhihgbbaaPAllxf14
import Derived.Test.YtapnkefhihgbbaaPAllxf21
import Derived.Test.YtapnkefhihgbbaaPAllxf22
import Derived.Test.YtapnkefhihgbbaaPAllxf25
import Derived.Test.YtapnkefhihgbbaaPAllxf9
namespace Go.Proofs.Ytapnkefhihgbbaa.PAll
open Go.RowKit Go.Proofs.YtapnkefhihgbbaaW.PrintWords Go.Proofs.YtapnkefhihgbbaaW.PrintLast Go.Proofs.YtapnkefhihgbbaaW.PrintMore
attribute [local go_sem] max2_int min2_int max_two min_two max_three min_three max_four min_four   -- for this text's walks alone
set_option linter.unusedVariables false
set_option linter.unusedSimpArgs false

/-! ### railplanlaw11_NetworkGenerated: function 8 -/
def railplanlaw11_NetworkGenerated.f (k : Nat) (l0 : List Int) (l1 : List Int) (a2 : Int) (a3_0 : Int) (a3_1 : Int) (a3_2 : Int) : Option (Bool) := (railplankeep_Network.f k l0).bind fun bt298 => ((railplankeep_Pick.f a2 (wrap64 ((bt298.2.2.length : Int) + 2))).bind fun t306 => ((railplankeep_Pick.f a3_0 2).bind fun t307 => ((railplankeep_Pick.f a3_1 3).bind fun t308 => ((railplankeep_Pick.f a3_2 3).bind fun t309 => ((railplanlaw11_awake.f).bind fun t310 => (if t310 = true then ((network_Check.f bt298.1 bt298.2.1 bt298.2.2).bind fun t311 => (if t311 = true then ((railplankeep_Times.f k bt298.1 bt298.2.1 bt298.2.2 l1).bind fun t312 => ((railplanlaw11_agrees.f bt298.1 bt298.2.1 bt298.2.2 t312 (wrap64 (t306 - 1)) (wrap64 (1 + t307)) t308 t309).bind fun t315 => (some t315))) else (some false))) else (some false)))))))
theorem railplanlaw11_NetworkGenerated.mono : ∀ a0 a1 a2 a3 a4 a5 k, LeO (railplanlaw11_NetworkGenerated.f k a0 a1 a2 a3 a4 a5) (railplanlaw11_NetworkGenerated.f (k + 1) a0 a1 a2 a3 a4 a5) := by
  intro a0 a1 a2 a3 a4 a5 k
  unfold railplanlaw11_NetworkGenerated.f
  repeat' first
      | (with_reducible exact railplankeep_Network.mono _ _)
      | (with_reducible exact railplankeep_Times.mono _ _ _ _ _)
      | (with_reducible exact LeO.refl _)
      | (with_reducible exact LeO.none _)
      | (with_reducible refine LeO.ite ?_ ?_)
      | (with_reducible refine LeO.bind ?_ (fun _ => ?_))
      | exact railplankeep_Network.mono _ _
      | exact railplankeep_Times.mono _ _ _ _ _
      | exact LeO.none _
      | refine LeO.ite ?_ ?_
      | refine LeO.bind ?_ (fun _ => ?_)
def railplanlaw11_NetworkGenerated.T3 : Bool × List (List Nat × List Nat) := (true, [([], []), ([0], [0]), ([1], [1]), ([2], [2]), ([], []), ([4], [4]), ([5, 2], [5]), ([], []), ([7], [7]), ([8, 6], [8]), ([0, 1, 2, 3, 4, 5, 7, 8], []), ([10, 3, 9, 0, 1, 2, 3, 4, 5, 7, 8], [3, 10]), ([0, 1, 2, 3, 4, 5, 6, 7, 8, 10, 11], []), ([12, 6, 11, 0, 1, 2, 3, 4, 5, 6, 7, 8, 10, 11], [6, 12]), ([0, 1, 2, 3, 4, 5, 6, 7, 8, 9, 10, 11, 12, 13], []), ([14, 9, 13, 0, 1, 2, 3, 4, 5, 6, 7, 8, 9, 10, 11, 12, 13], [9, 14])])
def railplanlaw11_NetworkGenerated.B3 : List Nat := [0, 1, 3, 7, 0, 16, 55, 0, 128, 503, 447, 2047, 4095, 8191, 16383, 32767]
theorem railplanlaw11_NetworkGenerated.tab3 : rtab .any (opsOf Try.f8 3) = railplanlaw11_NetworkGenerated.T3 := by kernel_rfl
theorem railplanlaw11_NetworkGenerated.bits3 : waitsOk railplanlaw11_NetworkGenerated.T3.2 railplanlaw11_NetworkGenerated.B3 = true := by kernel_rfl
def railplanlaw11_NetworkGenerated.T4 : Bool × List (List Nat × List Nat) := (true, [([], []), ([0, 0], [0]), ([1], [1]), ([2, 1, 1], [1, 2]), ([1, 3], [1, 3]), ([4, 3], [4]), ([5], [5]), ([5], [5]), ([5], [5]), ([7, 8, 5, 5], [5, 7, 8]), ([5], [5]), ([5], [5]), ([6, 9, 10, 11, 9, 5], [5, 6, 9, 10, 11]), ([5, 12], [5, 12]), ([13, 12, 0, 1, 2, 3, 4, 5, 6, 7, 8, 9, 10, 11, 12, 13], [13])])
def railplanlaw11_NetworkGenerated.B4 : List Nat := [0, 1, 3, 7, 15, 31, 63, 63, 63, 447, 63, 63, 4095, 8191, 16383]
theorem railplanlaw11_NetworkGenerated.tab4 : rtab .any (opsOf Try.f8 4) = railplanlaw11_NetworkGenerated.T4 := by kernel_rfl
theorem railplanlaw11_NetworkGenerated.bits4 : waitsOk railplanlaw11_NetworkGenerated.T4.2 railplanlaw11_NetworkGenerated.B4 = true := by kernel_rfl
set_option maxHeartbeats 8000000 in
set_option maxRecDepth 100000 in
theorem railplanlaw11_NetworkGenerated.calls (k : Nat) (A0 : Option Addr) (c0 : Nat) (l0 : List Int) (A1 : Option Addr) (c1 : Nat) (l1 : List Int) (a2 : Int) (a3_0 : Int) (a3_1 : Int) (a3_2 : Int) (r : Bool) (w : World) (hr0 : Kd.C (Kd.int .i64) w A0 l0.length l0) (hc0 : l0.length ≤ c0) (hr1 : Kd.C (Kd.int .i64) w A1 l1.length l1) (hc1 : l1.length ≤ c1) (h : railplanlaw11_NetworkGenerated.f k l0 l1 a2 a3_0 a3_1 a3_2 = some r) :
    Calls Try.prog 8 #[.slice A0 l0.length c0, .slice A1 l1.length c1, .int .i64 a2, .agg #[.int .i64 a3_0, .int .i64 a3_1, .int .i64 a3_2]] w fun e w' => e = .returned (.bool r) ∧ Below w.heap.size w w' := by
  have hu46 := Try.underlying46
  have hu26 := Try.underlying26
  have HR0 := Aside0.mk hr0
  have HC0 := Aside0.mk hc0
  clear hr0 hc0
  have HR1 := Aside0.mk hr1
  have HC1 := Aside0.mk hc1
  clear hr1 hc1
  have HB := Aside0.mk (Below.refl w.heap.size w)
  have H : ((railplankeep_Network.f k l0).bind fun bt298 => ((railplankeep_Pick.f a2 (wrap64 ((bt298.2.2.length : Int) + 2))).bind fun t306 => ((railplankeep_Pick.f a3_0 2).bind fun t307 => ((railplankeep_Pick.f a3_1 3).bind fun t308 => ((railplankeep_Pick.f a3_2 3).bind fun t309 => ((railplanlaw11_awake.f).bind fun t310 => (if t310 = true then ((network_Check.f bt298.1 bt298.2.1 bt298.2.2).bind fun t311 => (if t311 = true then ((railplankeep_Times.f k bt298.1 bt298.2.1 bt298.2.2 l1).bind fun t312 => ((railplanlaw11_agrees.f bt298.1 bt298.2.1 bt298.2.2 t312 (wrap64 (t306 - 1)) (wrap64 (1 + t307)) t308 t309).bind fun t315 => (some t315))) else (some false))) else (some false)))))))) = some r := h
  clear h
  replace H := Option.bind_eq_some_iff.mp H
  obtain ⟨⟨t298, t299, t302⟩, A50, H⟩ := H
  replace H : ((railplankeep_Pick.f a2 (wrap64 ((t302.length : Int) + 2))).bind fun t306 => ((railplankeep_Pick.f a3_0 2).bind fun t307 => ((railplankeep_Pick.f a3_1 3).bind fun t308 => ((railplankeep_Pick.f a3_2 3).bind fun t309 => ((railplanlaw11_awake.f).bind fun t310 => (if t310 = true then ((network_Check.f t298 t299 t302).bind fun t311 => (if t311 = true then ((railplankeep_Times.f k t298 t299 t302 l1).bind fun t312 => ((railplanlaw11_agrees.f t298 t299 t302 t312 (wrap64 (t306 - 1)) (wrap64 (1 + t307)) t308 t309).bind fun t315 => (some t315))) else (some false))) else (some false))))))) = some r := H
  have A5 := Aside0.mk A50
  clear A50
  replace H := Option.bind_eq_some_iff.mp H
  obtain ⟨t306, A60, H⟩ := H
  replace H : ((railplankeep_Pick.f a3_0 2).bind fun t307 => ((railplankeep_Pick.f a3_1 3).bind fun t308 => ((railplankeep_Pick.f a3_2 3).bind fun t309 => ((railplanlaw11_awake.f).bind fun t310 => (if t310 = true then ((network_Check.f t298 t299 t302).bind fun t311 => (if t311 = true then ((railplankeep_Times.f k t298 t299 t302 l1).bind fun t312 => ((railplanlaw11_agrees.f t298 t299 t302 t312 (wrap64 (t306 - 1)) (wrap64 (1 + t307)) t308 t309).bind fun t315 => (some t315))) else (some false))) else (some false)))))) = some r := H
  have A6 := Aside0.mk A60
  clear A60
  replace H := Option.bind_eq_some_iff.mp H
  obtain ⟨t307, A70, H⟩ := H
  replace H : ((railplankeep_Pick.f a3_1 3).bind fun t308 => ((railplankeep_Pick.f a3_2 3).bind fun t309 => ((railplanlaw11_awake.f).bind fun t310 => (if t310 = true then ((network_Check.f t298 t299 t302).bind fun t311 => (if t311 = true then ((railplankeep_Times.f k t298 t299 t302 l1).bind fun t312 => ((railplanlaw11_agrees.f t298 t299 t302 t312 (wrap64 (t306 - 1)) (wrap64 (1 + t307)) t308 t309).bind fun t315 => (some t315))) else (some false))) else (some false))))) = some r := H
  have A7 := Aside0.mk A70
  clear A70
  replace H := Option.bind_eq_some_iff.mp H
  obtain ⟨t308, A80, H⟩ := H
  replace H : ((railplankeep_Pick.f a3_2 3).bind fun t309 => ((railplanlaw11_awake.f).bind fun t310 => (if t310 = true then ((network_Check.f t298 t299 t302).bind fun t311 => (if t311 = true then ((railplankeep_Times.f k t298 t299 t302 l1).bind fun t312 => ((railplanlaw11_agrees.f t298 t299 t302 t312 (wrap64 (t306 - 1)) (wrap64 (1 + t307)) t308 t309).bind fun t315 => (some t315))) else (some false))) else (some false)))) = some r := H
  have A8 := Aside0.mk A80
  clear A80
  replace H := Option.bind_eq_some_iff.mp H
  obtain ⟨t309, A90, H⟩ := H
  replace H : ((railplanlaw11_awake.f).bind fun t310 => (if t310 = true then ((network_Check.f t298 t299 t302).bind fun t311 => (if t311 = true then ((railplankeep_Times.f k t298 t299 t302 l1).bind fun t312 => ((railplanlaw11_agrees.f t298 t299 t302 t312 (wrap64 (t306 - 1)) (wrap64 (1 + t307)) t308 t309).bind fun t315 => (some t315))) else (some false))) else (some false))) = some r := H
  have A9 := Aside0.mk A90
  clear A90
  replace H := Option.bind_eq_some_iff.mp H
  obtain ⟨t310, A100, H⟩ := H
  replace H : (if t310 = true then ((network_Check.f t298 t299 t302).bind fun t311 => (if t311 = true then ((railplankeep_Times.f k t298 t299 t302 l1).bind fun t312 => ((railplanlaw11_agrees.f t298 t299 t302 t312 (wrap64 (t306 - 1)) (wrap64 (1 + t307)) t308 t309).bind fun t315 => (some t315))) else (some false))) else (some false)) = some r := H
  have A10 := Aside0.mk A100
  clear A100
  by_cases c11 : t310 = true
  · subst c11
    have H1 : ((network_Check.f t298 t299 t302).bind fun t311 => (if t311 = true then ((railplankeep_Times.f k t298 t299 t302 l1).bind fun t312 => ((railplanlaw11_agrees.f t298 t299 t302 t312 (wrap64 (t306 - 1)) (wrap64 (1 + t307)) t308 t309).bind fun t315 => (some t315))) else (some false))) = some r := by rw [if_pos rfl] at H; exact H
    clear H
    have H := H1
    clear H1
    replace H := Option.bind_eq_some_iff.mp H
    obtain ⟨t311, A120, H⟩ := H
    replace H : (if t311 = true then ((railplankeep_Times.f k t298 t299 t302 l1).bind fun t312 => ((railplanlaw11_agrees.f t298 t299 t302 t312 (wrap64 (t306 - 1)) (wrap64 (1 + t307)) t308 t309).bind fun t315 => (some t315))) else (some false)) = some r := H
    have A12 := Aside0.mk A120
    clear A120
    by_cases c13 : t311 = true
    · subst c13
      have H1 : ((railplankeep_Times.f k t298 t299 t302 l1).bind fun t312 => ((railplanlaw11_agrees.f t298 t299 t302 t312 (wrap64 (t306 - 1)) (wrap64 (1 + t307)) t308 t309).bind fun t315 => (some t315))) = some r := by rw [if_pos rfl] at H; exact H
      clear H
      have H := H1
      clear H1
      replace H := Option.bind_eq_some_iff.mp H
      obtain ⟨t312, A140, H⟩ := H
      replace H : ((railplanlaw11_agrees.f t298 t299 t302 t312 (wrap64 (t306 - 1)) (wrap64 (1 + t307)) t308 t309).bind fun t315 => (some t315)) = some r := H
      have A14 := Aside0.mk A140
      clear A140
      replace H := Option.bind_eq_some_iff.mp H
      obtain ⟨t315, A150, H⟩ := H
      replace H : (some t315) = some r := H
      have A15 := Aside0.mk A150
      clear A150
      obtain rfl := Option.some.inj H
      go_enter Try.func8, Try.ntmps8
      try go_wp2_with (first | ((with_reducible refine gate_dst (N := 7) rfl ?_); refine box_event ?hg (N := 7) ?hd (cs := #[.int .i64 a3_0, .int .i64 a3_1, .int .i64 a3_2]) (t := 46) ?hr ?_; (case hd => rfl); (case hg => rfl); (case hr => first | (go_simp; done) | (go_simp; rfl)); intro gb297 hg w16 hbox hb; have n0_ := Aside0.mk (below_step (by repeat (first | (with_reducible first | exact HB.out | apply below_alloc | apply pw_below_drewN | apply below_drew1) | exact HB.out)) hb); have n1_ := Aside0.mk (hbox); have n2_ := Aside0.mk ((by rw [hg]; exact (below_size (by repeat (first | (with_reducible first | exact HB.out | apply below_alloc | apply pw_below_drewN | apply below_drew1) | exact HB.out))) : w.heap.size ≤ gb297)); have n3_ := Aside0.mk ((by rw [hg]; exact (below_size (by repeat (first | (with_reducible first | exact HB.out | apply below_alloc | apply pw_below_drewN | apply below_drew1) | exact HB.out))) : w.heap.size ≤ gb297)); clear HB; have HB := n0_; have BK297 := n1_; have GW297 := n2_; have GE297 := n3_; clear n0_ n1_ n2_ n3_; clear hb hbox hg) | ((with_reducible refine gate_callee (f := 9) rfl ?_); refine goesL_ (some 12) rfl rfl Try.func9 (by kernel_rfl) rfl #[.slice A0 l0.length c0] rfl (by (try simp only [List.map_toArray, List.map_cons, List.map_nil]); first | done | rfl | (simp only [List.length_drop, List.length_take]; rfl)) ?_; (with_reducible refine (railplankeep_Network.calls k _ _ l0 t298 t299 t302 _ ?side1 ?side2 A5.out).mono ?_); (case side1 => repeat (first | exact (Kd.C_below HR0.out HB.out) | (with_reducible refine Kd.C_alloc ?_ _) | (with_reducible refine Kd.C_drewN ?_ _) | (with_reducible refine Kd.C_drew ?_))); (case side2 => exact HC0.out); rintro e w17 ⟨v300, v303, rfl, ho0, ho1, hb⟩; refine ⟨_, rfl, ?_⟩; have n0_ := Aside0.mk (Kd.R_lower (Kd.R_newB ho0 (g := gb297) (o := .cells #[.int .i64 a3_0, .int .i64 a3_1, .int .i64 a3_2] 46 (0, 0)) (by (with_reducible repeat (first | refine blk_drewN ?_ _ | refine blk_drew ?_ | refine blk_alloc ?_ _)); exact BK297.out)) (below_size (by repeat (first | (with_reducible first | exact HB.out | apply below_alloc | apply pw_below_drewN | apply below_drew1 | refine below_set ?_ GE297.out) | exact HB.out)))); have n1_ := Aside0.mk (Kd.R_lower ho1 (below_size (by repeat (first | (with_reducible first | exact HB.out | apply below_alloc | apply pw_below_drewN | apply below_drew1 | refine below_set ?_ GE297.out) | exact HB.out)))); have n2_ := Aside0.mk (blk_below (g := gb297) (o := .cells #[.int .i64 a3_0, .int .i64 a3_1, .int .i64 a3_2] 46 (0, 0)) (by (with_reducible repeat (first | refine blk_drewN ?_ _ | refine blk_drew ?_ | refine blk_alloc ?_ _)); exact BK297.out) hb); have n3_ := Aside0.mk (below_step (by repeat (first | (with_reducible first | exact HB.out | apply below_alloc | apply pw_below_drewN | apply below_drew1 | refine below_set ?_ GE297.out) | exact HB.out)) hb); clear BK297; clear HB; have HO301 := n0_; have HO304 := n1_; have BK297 := n2_; have HB := n3_; clear n0_ n1_ n2_ n3_; (try clear hb); (try clear hb2); (try clear hk); (try clear hi); (try clear ho0); (try clear ho1)) | ((with_reducible refine gate_dst (N := 9) rfl ?_); refine box_event ?hg (N := 9) ?hd (cs := #[.int .i64 0, .slice none 0 0, .slice none 0 0]) (t := 26) ?hr ?_; (case hd => rfl); (case hg => rfl); (case hr => first | (go_simp; done) | (go_simp; rfl)); intro gb305 hg w18 hbox hb; have n0_ := Aside0.mk (Kd.R_below (by (with_reducible repeat (first | apply Kd.R_alloc | apply Kd.R_drewN | apply Kd.R_drew)); exact HO301.out) hb); have n1_ := Aside0.mk (Kd.R_below (by (with_reducible repeat (first | apply Kd.R_alloc | apply Kd.R_drewN | apply Kd.R_drew)); exact HO304.out) hb); have n2_ := Aside0.mk (blk_below (g := gb297) (o := .cells #[.int .i64 a3_0, .int .i64 a3_1, .int .i64 a3_2] 46 (0, 0)) (by (with_reducible repeat (first | refine blk_drewN ?_ _ | refine blk_drew ?_ | refine blk_alloc ?_ _)); exact BK297.out) hb); have n3_ := Aside0.mk (below_step (by repeat (first | (with_reducible first | exact HB.out | apply below_alloc | apply pw_below_drewN | apply below_drew1 | refine below_set ?_ GE297.out) | exact HB.out)) hb); have n4_ := Aside0.mk (hbox); have n5_ := Aside0.mk ((by rw [hg]; exact (below_size (by repeat (first | (with_reducible first | exact HB.out | apply below_alloc | apply pw_below_drewN | apply below_drew1 | refine below_set ?_ GE297.out) | exact HB.out))) : w.heap.size ≤ gb305)); have n6_ := Aside0.mk ((by rw [hg]; exact (below_size (by repeat (first | (with_reducible first | exact HB.out | apply below_alloc | apply pw_below_drewN | apply below_drew1 | refine below_set ?_ GE297.out) | exact HB.out))) : w.heap.size ≤ gb305)); have n7_ := Aside0.mk ((by rw [hg]; exact Nat.ne_of_lt (blk_lt (g := gb297) (o := .cells #[.int .i64 a3_0, .int .i64 a3_1, .int .i64 a3_2] 46 (0, 0)) (by (with_reducible repeat (first | refine blk_drewN ?_ _ | refine blk_drew ?_ | refine blk_alloc ?_ _)); exact BK297.out)) : gb297 ≠ gb305)); have n8_ := Aside0.mk ((by rw [hg]; exact Nat.ne_of_gt (blk_lt (g := gb297) (o := .cells #[.int .i64 a3_0, .int .i64 a3_1, .int .i64 a3_2] 46 (0, 0)) (by (with_reducible repeat (first | refine blk_drewN ?_ _ | refine blk_drew ?_ | refine blk_alloc ?_ _)); exact BK297.out)) : gb305 ≠ gb297)); clear HO301; clear HO304; clear BK297; clear HB; have HO301 := n0_; have HO304 := n1_; have BK297 := n2_; have HB := n3_; have BK305 := n4_; have GW305 := n5_; have GE305 := n6_; have NB297_305 := n7_; have NB305_297 := n8_; clear n0_ n1_ n2_ n3_ n4_ n5_ n6_ n7_ n8_; clear hb hbox hg; have hnb19 := NB305_297.out; have hnc19 := NB297_305.out; have hcz20_0 : w18.cell? ⟨gb305, 0, none⟩ = some (.int .i64 0) := (blk_cell BK305.out 0).trans rfl; have hcz20_1 : w18.cell? ⟨gb305, 1, none⟩ = some (.slice none 0 0) := (blk_cell BK305.out 1).trans rfl; have hcz20_2 : w18.cell? ⟨gb305, 2, none⟩ = some (.slice none 0 0) := (blk_cell BK305.out 2).trans rfl; have hfz20_0 := blk_frozen BK305.out 0; have hfz20_1 := blk_frozen BK305.out 1; have hfz20_2 := blk_frozen BK305.out 2; obtain ⟨Ao21, co21, eo21⟩ := Kd.R_slice HO301.out; subst eo21; obtain ⟨Ao22, co22, eo22⟩ := Kd.R_slice HO304.out; subst eo22) | ((with_reducible refine gate_callee (f := 11) rfl ?_); refine goesL_ (some 18) rfl rfl Try.func11 (by kernel_rfl) rfl #[.int .i64 a2, .int .i64 (wrap64 ((t302.length : Int) + 2))] rfl (by (try simp only [List.map_toArray, List.map_cons, List.map_nil]); first | done | rfl | (simp only [List.length_drop, List.length_take]; rfl)) ?_; (with_reducible refine (railplankeep_Pick.calls a2 (wrap64 ((t302.length : Int) + 2)) t306 _ A6.out).mono ?_); rintro e w' ⟨rfl, ⟨nd, rfl⟩⟩; refine ⟨_, rfl, ?_⟩))
      have n0_ : Aside0 (Kd.R k46 46 (((w18.setCell ⟨gb305, 0, none⟩ (.int .i64 t298)).setCell ⟨gb305, 1, none⟩ (.slice Ao21 t299.length co21)).setCell ⟨gb305, 2, none⟩ (.slice Ao22 t302.length co22)) w.heap.size (fun k_ => k_ ≠ gb297) (.slice Ao21 t299.length co21) t299) := ⟨by (with_reducible repeat (first | apply Kd.R_alloc | apply Kd.R_drewN | apply Kd.R_drew)); exact Kd.R_mono (Kd.R_far (p := ⟨gb305, 2, none⟩) (Kd.R_far (p := ⟨gb305, 1, none⟩) (Kd.R_far (p := ⟨gb305, 0, none⟩) (Kd.R_types HO301.out BK305.out (by decide)) (fun _ hk => hk.2) (.int .i64 t298)) (fun _ hk => hk.2) (.slice Ao21 t299.length co21)) (fun _ hk => hk.2) (.slice Ao22 t302.length co22)) (fun _ hk => hk.1.2)⟩
      have n1_ : Aside0 (Kd.R k31 31 (((w18.setCell ⟨gb305, 0, none⟩ (.int .i64 t298)).setCell ⟨gb305, 1, none⟩ (.slice Ao21 t299.length co21)).setCell ⟨gb305, 2, none⟩ (.slice Ao22 t302.length co22)) w.heap.size (fun _ => True) (.slice Ao22 t302.length co22) t302) := ⟨by (with_reducible repeat (first | apply Kd.R_alloc | apply Kd.R_drewN | apply Kd.R_drew)); exact Kd.R_mono (Kd.R_far (p := ⟨gb305, 2, none⟩) (Kd.R_far (p := ⟨gb305, 1, none⟩) (Kd.R_far (p := ⟨gb305, 0, none⟩) (Kd.R_types HO304.out BK305.out (by decide)) (fun _ hk => hk.2) (.int .i64 t298)) (fun _ hk => hk.2) (.slice Ao21 t299.length co21)) (fun _ hk => hk.2) (.slice Ao22 t302.length co22)) (fun _ hk => trivial)⟩
      have n2_ : Aside0 ((((w18.setCell ⟨gb305, 0, none⟩ (.int .i64 t298)).setCell ⟨gb305, 1, none⟩ (.slice Ao21 t299.length co21)).setCell ⟨gb305, 2, none⟩ (.slice Ao22 t302.length co22)).heap[gb297]? = some (.cells #[.int .i64 a3_0, .int .i64 a3_1, .int .i64 a3_2] 46 (0, 0))) := ⟨by (with_reducible repeat (first | refine blk_drewN ?_ _ | refine blk_drew ?_ | refine blk_alloc ?_ _)); refine blk_far ?_ NB297_305.out _; (with_reducible repeat (first | refine blk_drewN ?_ _ | refine blk_drew ?_ | refine blk_alloc ?_ _)); refine blk_far ?_ NB297_305.out _; (with_reducible repeat (first | refine blk_drewN ?_ _ | refine blk_drew ?_ | refine blk_alloc ?_ _)); refine blk_far ?_ NB297_305.out _; (with_reducible repeat (first | refine blk_drewN ?_ _ | refine blk_drew ?_ | refine blk_alloc ?_ _)); exact BK297.out⟩
      have n3_ : Aside0 ((((w18.setCell ⟨gb305, 0, none⟩ (.int .i64 t298)).setCell ⟨gb305, 1, none⟩ (.slice Ao21 t299.length co21)).setCell ⟨gb305, 2, none⟩ (.slice Ao22 t302.length co22)).heap[gb305]? = some (.cells #[.int .i64 t298, .slice Ao21 t299.length co21, .slice Ao22 t302.length co22] 26 (0, 0))) := ⟨by (with_reducible repeat (first | refine blk_drewN ?_ _ | refine blk_drew ?_ | refine blk_alloc ?_ _)); refine blk_put (cs := #[.int .i64 t298, .slice Ao21 t299.length co21, .slice none 0 0]) ?_ 2 _ rfl; (with_reducible repeat (first | refine blk_drewN ?_ _ | refine blk_drew ?_ | refine blk_alloc ?_ _)); refine blk_put (cs := #[.int .i64 t298, .slice none 0 0, .slice none 0 0]) ?_ 1 _ rfl; (with_reducible repeat (first | refine blk_drewN ?_ _ | refine blk_drew ?_ | refine blk_alloc ?_ _)); refine blk_put (cs := #[.int .i64 0, .slice none 0 0, .slice none 0 0]) ?_ 0 _ rfl; (with_reducible repeat (first | refine blk_drewN ?_ _ | refine blk_drew ?_ | refine blk_alloc ?_ _)); exact BK305.out⟩
      have n4_ : Aside0 (Below w.heap.size w (((w18.setCell ⟨gb305, 0, none⟩ (.int .i64 t298)).setCell ⟨gb305, 1, none⟩ (.slice Ao21 t299.length co21)).setCell ⟨gb305, 2, none⟩ (.slice Ao22 t302.length co22))) := ⟨by repeat (first | (with_reducible first | exact HB.out | apply below_alloc | apply pw_below_drewN | apply below_drew1 | refine below_set ?_ GE297.out | refine below_set ?_ GE305.out) | exact HB.out)⟩
      (try clear HO301)
      (try clear HO304)
      (try clear BK297)
      (try clear BK305)
      (try clear HB)
      (try simp only [show ∀ (w_ : World) (n_ : Nat) (p_ : Addr) (v_ : Value), (w_.drewN n_).setCell p_ v_ = (w_.setCell p_ v_).drewN n_ from fun _ _ _ _ => rfl])
      generalize (((w18.setCell ⟨gb305, 0, none⟩ (.int .i64 t298)).setCell ⟨gb305, 1, none⟩ (.slice Ao21 t299.length co21)).setCell ⟨gb305, 2, none⟩ (.slice Ao22 t302.length co22)) = w23 at n0_ n1_ n2_ n3_ n4_ ⊢
      have HO301 := n0_
      have HO304 := n1_
      have BK297 := n2_
      have BK305 := n3_
      have HB := n4_
      clear n0_ n1_ n2_ n3_ n4_
      (try (rw [drewN_self w23]; generalize hq_ : World.drewN w23 _ = w23; have n0_ : Aside0 (Kd.R k46 46 w23 w.heap.size (fun k_ => k_ ≠ gb297) (.slice Ao21 t299.length co21) t299) := ⟨by rw [← hq_]; exact (by (with_reducible repeat (first | apply Kd.R_alloc | apply Kd.R_drewN | apply Kd.R_drew)); exact HO301.out)⟩; have n1_ : Aside0 (Kd.R k31 31 w23 w.heap.size (fun _ => True) (.slice Ao22 t302.length co22) t302) := ⟨by rw [← hq_]; exact (by (with_reducible repeat (first | apply Kd.R_alloc | apply Kd.R_drewN | apply Kd.R_drew)); exact HO304.out)⟩; have n2_ : Aside0 (w23.heap[gb297]? = some (.cells #[.int .i64 a3_0, .int .i64 a3_1, .int .i64 a3_2] 46 (0, 0))) := ⟨by rw [← hq_]; exact (by (with_reducible repeat (first | refine blk_drewN ?_ _ | refine blk_drew ?_ | refine blk_alloc ?_ _)); exact BK297.out)⟩; have n3_ : Aside0 (w23.heap[gb305]? = some (.cells #[.int .i64 t298, .slice Ao21 t299.length co21, .slice Ao22 t302.length co22] 26 (0, 0))) := ⟨by rw [← hq_]; exact (by (with_reducible repeat (first | refine blk_drewN ?_ _ | refine blk_drew ?_ | refine blk_alloc ?_ _)); exact BK305.out)⟩; have n4_ : Aside0 (Below w.heap.size w w23) := ⟨by rw [← hq_]; exact (by repeat (first | (with_reducible first | exact HB.out | apply below_alloc | apply pw_below_drewN | apply below_drew1 | refine below_set ?_ GE297.out | refine below_set ?_ GE305.out) | exact HB.out))⟩; clear HO301 HO304 BK297 BK305 HB hq_; have HO301 := n0_; have HO304 := n1_; have BK297 := n2_; have BK305 := n3_; have HB := n4_; clear n0_ n1_ n2_ n3_ n4_))
      have n0_ := Aside0.mk (Kd.R_drew HO301.out)
      have n1_ := Aside0.mk (Kd.R_drew HO304.out)
      have n2_ := Aside0.mk (blk_drew BK297.out)
      have n3_ := Aside0.mk (blk_drew BK305.out)
      have n4_ := Aside0.mk (below_drew1 HB.out)
      clear HO301
      clear HO304
      clear BK297
      clear BK305
      clear HB
      have HO301 := n0_
      have HO304 := n1_
      have BK297 := n2_
      have BK305 := n3_
      have HB := n4_
      clear n0_ n1_ n2_ n3_ n4_
      refine start_ (n := 16) (S := fun w' => w'.cell? ⟨gb297, 0, none⟩ = some (.int .i64 a3_0) ∧ w'.cell? ⟨gb297, 1, none⟩ = some (.int .i64 a3_1) ∧ w'.cell? ⟨gb297, 2, none⟩ = some (.int .i64 a3_2)) (ds := [11, 13, 15]) #[false, false, false, false, false, false, false, false, false, false, false, false, false, false, false, false] (by kernel_rfl) rfl rfl ⟨(blk_cell BK297.out 0).trans rfl, (blk_cell BK297.out 1).trans rfl, (blk_cell BK297.out 2).trans rfl⟩ (fun hHeld => ?_); refine with_tabW railplanlaw11_NetworkGenerated.tab3 railplanlaw11_NetworkGenerated.bits3 (fun HT_ HW_ => ?_)
      generalize w23.drew = w24 at HO301 HO304 BK297 BK305 HB hHeld ⊢
      refine pure_ (i := 0) (N := some 20) (v := ?_) (a' := ?_) #[true, false, false, false, false, false, false, false, false, false, false, false, false, false, false, false] rfl rfl (any_of HT_.out (by kernel_rfl)) (fun _ _ _ h => h) (Or.inl ⟨by rfl, ?_⟩) ?_ ?_
      rotate_left
      · intro w'
        go_simp
        with_reducible rfl
      rotate_left
      · simp only [Act.put, List.setIfInBounds_toArray, List.set_cons_zero, List.set_cons_succ, i64_w, i32_w]
        rfl
      refine pure_ (i := 4) (N := some 24) (v := ?_) (a' := ?_) #[true, false, false, false, true, false, false, false, false, false, false, false, false, false, false, false] rfl rfl (any_of HT_.out (by kernel_rfl)) (fun _ _ _ h => h) (Or.inl ⟨by rfl, ?_⟩) ?_ ?_
      rotate_left
      · intro w'
        go_simp
        with_reducible rfl
      rotate_left
      · simp only [Act.put, List.setIfInBounds_toArray, List.set_cons_zero, List.set_cons_succ, i64_w, i32_w]
        rfl
      refine pure_ (i := 7) (N := some 27) (v := ?_) (a' := ?_) #[true, false, false, false, true, false, false, true, false, false, false, false, false, false, false, false] rfl rfl (any_of HT_.out (by kernel_rfl)) (fun _ _ _ h => h) (Or.inl ⟨by rfl, ?_⟩) ?_ ?_
      rotate_left
      · intro w'
        go_simp
        with_reducible rfl
      rotate_left
      · simp only [Act.put, List.setIfInBounds_toArray, List.set_cons_zero, List.set_cons_succ, i64_w, i32_w]
        rfl
      refine take_ (i := 1) (N := some 21) (v := ?_) (a' := ?_) #[true, true, false, false, true, false, false, true, false, false, false, false, false, false, false, false] rfl rfl (take_ofW HT_.out HW_.out (by kernel_rfl)) (fun _ _ _ h => h) (Or.inl ⟨by rfl, ?_⟩) hHeld ?_ ?_
      rotate_left
      · rintro w' ⟨s0, s1, s2⟩
        go_simp
        with_reducible rfl
      rotate_left
      · simp only [Act.put, List.setIfInBounds_toArray, List.set_cons_zero, List.set_cons_succ, i64_w, i32_w]
        rfl
      refine take_ (i := 5) (N := some 25) (v := ?_) (a' := ?_) #[true, true, false, false, true, true, false, true, false, false, false, false, false, false, false, false] rfl rfl (take_ofW HT_.out HW_.out (by kernel_rfl)) (fun _ _ _ h => h) (Or.inl ⟨by rfl, ?_⟩) hHeld ?_ ?_
      rotate_left
      · rintro w' ⟨s0, s1, s2⟩
        go_simp
        with_reducible rfl
      rotate_left
      · simp only [Act.put, List.setIfInBounds_toArray, List.set_cons_zero, List.set_cons_succ, i64_w, i32_w]
        rfl
      refine take_ (i := 8) (N := some 28) (v := ?_) (a' := ?_) #[true, true, false, false, true, true, false, true, true, false, false, false, false, false, false, false] rfl rfl (take_ofW HT_.out HW_.out (by kernel_rfl)) (fun _ _ _ h => h) (Or.inl ⟨by rfl, ?_⟩) hHeld ?_ ?_
      rotate_left
      · rintro w' ⟨s0, s1, s2⟩
        go_simp
        with_reducible rfl
      rotate_left
      · simp only [Act.put, List.setIfInBounds_toArray, List.set_cons_zero, List.set_cons_succ, i64_w, i32_w]
        rfl
      refine one_ (i := 2) (N := some 22) #[true, true, true, false, true, true, false, true, true, false, false, false, false, false, false, false] rfl rfl (one_of HT_.out (by kernel_rfl)) (by decide) (fun K hK => ?_)
      refine goes_ Try.func11 (by kernel_rfl) rfl #[.int .i64 a3_0, .int .i64 2] (by rfl) rfl rfl (by (try simp only [List.map_toArray, List.map_cons, List.map_nil]); first | done | rfl | (simp only [List.length_drop, List.length_take]; rfl)) ?_
      with_reducible refine (railplankeep_Pick.calls a3_0 2 t307 _ A7.out).mono ?_
      rintro e w' ⟨rfl, ⟨nd, rfl⟩⟩
      refine ⟨_, rfl, ?_⟩
      refine hK.out _ _ ⟨(blk_cell BK297.out 0).trans rfl, (blk_cell BK297.out 1).trans rfl, (blk_cell BK297.out 2).trans rfl⟩ (fun hHeld => ?_)
      clear hK K
      refine norm_ (a' := ?_) ?_ ?_
      rotate_left
      · show Act.put _ (some 22) _ = _
        simp only [Act.put, List.setIfInBounds_toArray, List.set_cons_zero, List.set_cons_succ, i64_w, i32_w]
        rfl
      refine pure_ (i := 3) (N := some 23) (v := ?_) (a' := ?_) #[true, true, true, true, true, true, false, true, true, false, false, false, false, false, false, false] rfl rfl (any_of HT_.out (by kernel_rfl)) (fun _ _ _ h => h) (Or.inl ⟨by rfl, ?_⟩) ?_ ?_
      rotate_left
      · intro w'
        go_simp
        with_reducible rfl
      rotate_left
      · simp only [Act.put, List.setIfInBounds_toArray, List.set_cons_zero, List.set_cons_succ, i64_w, i32_w]
        rfl
      refine pure_ (i := 10) (N := some 30) (v := ?_) (a' := ?_) #[true, true, true, true, true, true, false, true, true, false, true, false, false, false, false, false] rfl rfl (any_of HT_.out (by kernel_rfl)) (fun _ _ _ h => h) (Or.inl ⟨by rfl, ?_⟩) ?_ ?_
      rotate_left
      · intro w'
        go_simp
        with_reducible rfl
      rotate_left
      · simp only [Act.put, List.setIfInBounds_toArray, List.set_cons_zero, List.set_cons_succ, i64_w, i32_w]
        rfl
      refine one_ (i := 6) (N := some 26) #[true, true, true, true, true, true, true, true, true, false, true, false, false, false, false, false] rfl rfl (one_of HT_.out (by kernel_rfl)) (by decide) (fun K hK => ?_)
      refine goes_ Try.func11 (by kernel_rfl) rfl #[.int .i64 a3_1, .int .i64 3] (by rfl) rfl rfl (by (try simp only [List.map_toArray, List.map_cons, List.map_nil]); first | done | rfl | (simp only [List.length_drop, List.length_take]; rfl)) ?_
      with_reducible refine (railplankeep_Pick.calls a3_1 3 t308 _ A8.out).mono ?_
      rintro e w' ⟨rfl, ⟨nd, rfl⟩⟩
      refine ⟨_, rfl, ?_⟩
      refine hK.out _ _ ⟨(blk_cell BK297.out 0).trans rfl, (blk_cell BK297.out 1).trans rfl, (blk_cell BK297.out 2).trans rfl⟩ (fun hHeld => ?_)
      clear hK K
      refine norm_ (a' := ?_) ?_ ?_
      rotate_left
      · show Act.put _ (some 26) _ = _
        simp only [Act.put, List.setIfInBounds_toArray, List.set_cons_zero, List.set_cons_succ, i64_w, i32_w]
        rfl
      refine one_ (i := 9) (N := some 29) #[true, true, true, true, true, true, true, true, true, true, true, false, false, false, false, false] rfl rfl (one_of HT_.out (by kernel_rfl)) (by decide) (fun K hK => ?_)
      refine goes_ Try.func11 (by kernel_rfl) rfl #[.int .i64 a3_2, .int .i64 3] (by rfl) rfl rfl (by (try simp only [List.map_toArray, List.map_cons, List.map_nil]); first | done | rfl | (simp only [List.length_drop, List.length_take]; rfl)) ?_
      with_reducible refine (railplankeep_Pick.calls a3_2 3 t309 _ A9.out).mono ?_
      rintro e w' ⟨rfl, ⟨nd, rfl⟩⟩
      refine ⟨_, rfl, ?_⟩
      refine hK.out _ _ ⟨(blk_cell BK297.out 0).trans rfl, (blk_cell BK297.out 1).trans rfl, (blk_cell BK297.out 2).trans rfl⟩ (fun hHeld => ?_)
      clear hK K
      refine norm_ (a' := ?_) ?_ ?_
      rotate_left
      · show Act.put _ (some 29) _ = _
        simp only [Act.put, List.setIfInBounds_toArray, List.set_cons_zero, List.set_cons_succ, i64_w, i32_w]
        rfl
      refine last_ (i := 11) (N := none) #[true, true, true, true, true, true, true, true, true, true, true, true, false, false, false, false] rfl rfl (one_of HT_.out (by kernel_rfl)) (by decide) (fun K hK => ?_)
      have hs25 : w24.cell? ⟨gb297, 0, none⟩ = some (.int .i64 a3_0) := (blk_cell BK297.out 0).trans rfl
      have hfs25 := blk_frozen BK297.out 0
      have hns25_1 := NB305_297.out
      have hms25_1 := NB297_305.out
      refine skip_ (w1 := ?_) (by rfl) rfl ?_ ?_
      rotate_left
      · go_simp
        rfl
      refine hK.out _ _ ?_
      clear hK K
      refine pure_ (i := 12) (N := some 31) (v := ?_) (a' := ?_) #[true, true, true, true, true, true, true, true, true, true, true, true, true, false, false, false] rfl rfl (any_of HT_.out (by kernel_rfl)) (fun _ _ _ h => h) (Or.inl ⟨by rfl, ?_⟩) ?_ ?_
      rotate_left
      · intro w'
        go_simp
        with_reducible rfl
      rotate_left
      · simp only [Act.put, List.setIfInBounds_toArray, List.set_cons_zero, List.set_cons_succ, i64_w, i32_w]
        rfl
      refine last_ (i := 13) (N := none) #[true, true, true, true, true, true, true, true, true, true, true, true, true, true, false, false] rfl rfl (one_of HT_.out (by kernel_rfl)) (by decide) (fun K hK => ?_)
      have hs26 : w24.cell? ⟨gb297, 1, none⟩ = some (.int .i64 a3_1) := (blk_cell BK297.out 1).trans rfl
      have hfs26 := blk_frozen BK297.out 1
      have hns26_1 := NB305_297.out
      have hms26_1 := NB297_305.out
      refine skip_ (w1 := ?_) (by rfl) rfl ?_ ?_
      rotate_left
      · go_simp
        rfl
      refine hK.out _ _ ?_
      clear hK K
      refine pure_ (i := 14) (N := some 32) (v := ?_) (a' := ?_) #[true, true, true, true, true, true, true, true, true, true, true, true, true, true, true, false] rfl rfl (any_of HT_.out (by kernel_rfl)) (fun _ _ _ h => h) (Or.inl ⟨by rfl, ?_⟩) ?_ ?_
      rotate_left
      · intro w'
        go_simp
        with_reducible rfl
      rotate_left
      · simp only [Act.put, List.setIfInBounds_toArray, List.set_cons_zero, List.set_cons_succ, i64_w, i32_w]
        rfl
      refine last_ (i := 15) (N := none) #[true, true, true, true, true, true, true, true, true, true, true, true, true, true, true, true] rfl rfl (one_of HT_.out (by kernel_rfl)) (by decide) (fun K hK => ?_)
      have hs27 : w24.cell? ⟨gb297, 2, none⟩ = some (.int .i64 a3_2) := (blk_cell BK297.out 2).trans rfl
      have hfs27 := blk_frozen BK297.out 2
      have hns27_1 := NB305_297.out
      have hms27_1 := NB297_305.out
      refine skip_ (w1 := ?_) (by rfl) rfl ?_ ?_
      rotate_left
      · go_simp
        rfl
      refine hK.out _ _ ?_
      clear hK K
      refine done_ (done_of HT_.out (by kernel_rfl)) ?_
      try go_wp2
      have n0_ : Aside0 (Kd.R k46 46 (((w24.setCell ⟨gb297, 0, none⟩ (.int .i64 (wrap64 (1 + t307)))).setCell ⟨gb297, 1, none⟩ (.int .i64 t308)).setCell ⟨gb297, 2, none⟩ (.int .i64 t309)) w.heap.size (fun k_ => k_ ≠ gb297) (.slice Ao21 t299.length co21) t299) := ⟨by (with_reducible repeat (first | apply Kd.R_alloc | apply Kd.R_drewN | apply Kd.R_drew)); exact Kd.R_mono (Kd.R_far (p := ⟨gb297, 2, none⟩) (Kd.R_far (p := ⟨gb297, 1, none⟩) (Kd.R_far (p := ⟨gb297, 0, none⟩) (Kd.R_mono HO301.out (fun k_ hk => (⟨hk, hk⟩ : _ ∧ k_ ≠ gb297))) (fun _ hk => hk.2) (.int .i64 (wrap64 (1 + t307)))) (fun _ hk => hk.2) (.int .i64 t308)) (fun _ hk => hk.2) (.int .i64 t309)) (fun _ hk => hk.1)⟩
      have n1_ : Aside0 (Kd.R k31 31 (((w24.setCell ⟨gb297, 0, none⟩ (.int .i64 (wrap64 (1 + t307)))).setCell ⟨gb297, 1, none⟩ (.int .i64 t308)).setCell ⟨gb297, 2, none⟩ (.int .i64 t309)) w.heap.size (fun _ => True) (.slice Ao22 t302.length co22) t302) := ⟨by (with_reducible repeat (first | apply Kd.R_alloc | apply Kd.R_drewN | apply Kd.R_drew)); exact Kd.R_mono (Kd.R_far (p := ⟨gb297, 2, none⟩) (Kd.R_far (p := ⟨gb297, 1, none⟩) (Kd.R_far (p := ⟨gb297, 0, none⟩) (Kd.R_types HO304.out BK297.out (by decide)) (fun _ hk => hk.2) (.int .i64 (wrap64 (1 + t307)))) (fun _ hk => hk.2) (.int .i64 t308)) (fun _ hk => hk.2) (.int .i64 t309)) (fun _ hk => trivial)⟩
      have n2_ : Aside0 ((((w24.setCell ⟨gb297, 0, none⟩ (.int .i64 (wrap64 (1 + t307)))).setCell ⟨gb297, 1, none⟩ (.int .i64 t308)).setCell ⟨gb297, 2, none⟩ (.int .i64 t309)).heap[gb297]? = some (.cells #[.int .i64 (wrap64 (1 + t307)), .int .i64 t308, .int .i64 t309] 46 (0, 0))) := ⟨by (with_reducible repeat (first | refine blk_drewN ?_ _ | refine blk_drew ?_ | refine blk_alloc ?_ _)); refine blk_put (cs := #[.int .i64 (wrap64 (1 + t307)), .int .i64 t308, .int .i64 a3_2]) ?_ 2 _ rfl; (with_reducible repeat (first | refine blk_drewN ?_ _ | refine blk_drew ?_ | refine blk_alloc ?_ _)); refine blk_put (cs := #[.int .i64 (wrap64 (1 + t307)), .int .i64 a3_1, .int .i64 a3_2]) ?_ 1 _ rfl; (with_reducible repeat (first | refine blk_drewN ?_ _ | refine blk_drew ?_ | refine blk_alloc ?_ _)); refine blk_put (cs := #[.int .i64 a3_0, .int .i64 a3_1, .int .i64 a3_2]) ?_ 0 _ rfl; (with_reducible repeat (first | refine blk_drewN ?_ _ | refine blk_drew ?_ | refine blk_alloc ?_ _)); exact BK297.out⟩
      have n3_ : Aside0 ((((w24.setCell ⟨gb297, 0, none⟩ (.int .i64 (wrap64 (1 + t307)))).setCell ⟨gb297, 1, none⟩ (.int .i64 t308)).setCell ⟨gb297, 2, none⟩ (.int .i64 t309)).heap[gb305]? = some (.cells #[.int .i64 t298, .slice Ao21 t299.length co21, .slice Ao22 t302.length co22] 26 (0, 0))) := ⟨by (with_reducible repeat (first | refine blk_drewN ?_ _ | refine blk_drew ?_ | refine blk_alloc ?_ _)); refine blk_far ?_ NB305_297.out _; (with_reducible repeat (first | refine blk_drewN ?_ _ | refine blk_drew ?_ | refine blk_alloc ?_ _)); refine blk_far ?_ NB305_297.out _; (with_reducible repeat (first | refine blk_drewN ?_ _ | refine blk_drew ?_ | refine blk_alloc ?_ _)); refine blk_far ?_ NB305_297.out _; (with_reducible repeat (first | refine blk_drewN ?_ _ | refine blk_drew ?_ | refine blk_alloc ?_ _)); exact BK305.out⟩
      have n4_ : Aside0 (Below w.heap.size w (((w24.setCell ⟨gb297, 0, none⟩ (.int .i64 (wrap64 (1 + t307)))).setCell ⟨gb297, 1, none⟩ (.int .i64 t308)).setCell ⟨gb297, 2, none⟩ (.int .i64 t309))) := ⟨by repeat (first | (with_reducible first | exact HB.out | apply below_alloc | apply pw_below_drewN | apply below_drew1 | refine below_set ?_ GE297.out | refine below_set ?_ GE305.out) | exact HB.out)⟩
      (try clear HO301)
      (try clear HO304)
      (try clear BK297)
      (try clear BK305)
      (try clear HB)
      (try simp only [show ∀ (w_ : World) (n_ : Nat) (p_ : Addr) (v_ : Value), (w_.drewN n_).setCell p_ v_ = (w_.setCell p_ v_).drewN n_ from fun _ _ _ _ => rfl])
      generalize (((w24.setCell ⟨gb297, 0, none⟩ (.int .i64 (wrap64 (1 + t307)))).setCell ⟨gb297, 1, none⟩ (.int .i64 t308)).setCell ⟨gb297, 2, none⟩ (.int .i64 t309)) = w28 at n0_ n1_ n2_ n3_ n4_ ⊢
      have HO301 := n0_
      have HO304 := n1_
      have BK297 := n2_
      have BK305 := n3_
      have HB := n4_
      clear n0_ n1_ n2_ n3_ n4_
      (try (rw [drewN_self w28]; generalize hq_ : World.drewN w28 _ = w28; have n0_ : Aside0 (Kd.R k46 46 w28 w.heap.size (fun k_ => k_ ≠ gb297) (.slice Ao21 t299.length co21) t299) := ⟨by rw [← hq_]; exact (by (with_reducible repeat (first | apply Kd.R_alloc | apply Kd.R_drewN | apply Kd.R_drew)); exact HO301.out)⟩; have n1_ : Aside0 (Kd.R k31 31 w28 w.heap.size (fun _ => True) (.slice Ao22 t302.length co22) t302) := ⟨by rw [← hq_]; exact (by (with_reducible repeat (first | apply Kd.R_alloc | apply Kd.R_drewN | apply Kd.R_drew)); exact HO304.out)⟩; have n2_ : Aside0 (w28.heap[gb297]? = some (.cells #[.int .i64 (wrap64 (1 + t307)), .int .i64 t308, .int .i64 t309] 46 (0, 0))) := ⟨by rw [← hq_]; exact (by (with_reducible repeat (first | refine blk_drewN ?_ _ | refine blk_drew ?_ | refine blk_alloc ?_ _)); exact BK297.out)⟩; have n3_ : Aside0 (w28.heap[gb305]? = some (.cells #[.int .i64 t298, .slice Ao21 t299.length co21, .slice Ao22 t302.length co22] 26 (0, 0))) := ⟨by rw [← hq_]; exact (by (with_reducible repeat (first | refine blk_drewN ?_ _ | refine blk_drew ?_ | refine blk_alloc ?_ _)); exact BK305.out)⟩; have n4_ : Aside0 (Below w.heap.size w w28) := ⟨by rw [← hq_]; exact (by repeat (first | (with_reducible first | exact HB.out | apply below_alloc | apply pw_below_drewN | apply below_drew1 | refine below_set ?_ GE297.out | refine below_set ?_ GE305.out) | exact HB.out))⟩; clear HO301 HO304 BK297 BK305 HB hq_; have HO301 := n0_; have HO304 := n1_; have BK297 := n2_; have BK305 := n3_; have HB := n4_; clear n0_ n1_ n2_ n3_ n4_))
      have n0_ := Aside0.mk (Kd.R_drew HO301.out)
      have n1_ := Aside0.mk (Kd.R_drew HO304.out)
      have n2_ := Aside0.mk (blk_drew BK297.out)
      have n3_ := Aside0.mk (blk_drew BK305.out)
      have n4_ := Aside0.mk (below_drew1 HB.out)
      clear HO301
      clear HO304
      clear BK297
      clear BK305
      clear HB
      have HO301 := n0_
      have HO304 := n1_
      have BK297 := n2_
      have BK305 := n3_
      have HB := n4_
      clear n0_ n1_ n2_ n3_ n4_
      refine start_ (n := 15) (S := fun w' => w'.cell? ⟨gb305, 0, none⟩ = some (.int .i64 t298) ∧ w'.cell? ⟨gb305, 1, none⟩ = some (.slice Ao21 t299.length co21) ∧ w'.cell? ⟨gb305, 2, none⟩ = some (.slice Ao22 t302.length co22) ∧ w'.cell? ⟨gb297, 0, none⟩ = some (.int .i64 (wrap64 (1 + t307))) ∧ w'.cell? ⟨gb297, 1, none⟩ = some (.int .i64 t308) ∧ w'.cell? ⟨gb297, 2, none⟩ = some (.int .i64 t309)) (ds := []) #[false, false, false, false, false, false, false, false, false, false, false, false, false, false, false] (by kernel_rfl) rfl rfl ⟨(blk_cell BK305.out 0).trans rfl, (blk_cell BK305.out 1).trans rfl, (blk_cell BK305.out 2).trans rfl, (blk_cell BK297.out 0).trans rfl, (blk_cell BK297.out 1).trans rfl, (blk_cell BK297.out 2).trans rfl⟩ (fun hHeld => ?_); refine with_tabW railplanlaw11_NetworkGenerated.tab4 railplanlaw11_NetworkGenerated.bits4 (fun HT_ HW_ => ?_)
      generalize w28.drew = w29 at HO301 HO304 BK297 BK305 HB hHeld ⊢
      refine one_ (i := 0) (N := some 33) #[true, false, false, false, false, false, false, false, false, false, false, false, false, false, false] rfl rfl (one_of HT_.out (by kernel_rfl)) (by decide) (fun K hK => ?_)
      refine goes_ Try.func10 (by kernel_rfl) rfl #[] (by rfl) rfl rfl (by (try simp only [List.map_toArray, List.map_cons, List.map_nil]); first | done | rfl | (simp only [List.length_drop, List.length_take]; rfl)) ?_
      with_reducible refine (railplanlaw11_awake.calls  true _ A10.out).mono ?_
      rintro e w30 ⟨rfl, hb⟩
      refine ⟨_, rfl, ?_⟩
      have n0_ := Aside0.mk (Kd.R_below (by (with_reducible repeat (first | apply Kd.R_alloc | apply Kd.R_drewN | apply Kd.R_drew)); exact HO301.out) hb)
      have n1_ := Aside0.mk (Kd.R_below (by (with_reducible repeat (first | apply Kd.R_alloc | apply Kd.R_drewN | apply Kd.R_drew)); exact HO304.out) hb)
      have n2_ := Aside0.mk (blk_below (g := gb297) (o := .cells #[.int .i64 (wrap64 (1 + t307)), .int .i64 t308, .int .i64 t309] 46 (0, 0)) (by (with_reducible repeat (first | refine blk_drewN ?_ _ | refine blk_drew ?_ | refine blk_alloc ?_ _)); exact BK297.out) hb)
      have n3_ := Aside0.mk (blk_below (g := gb305) (o := .cells #[.int .i64 t298, .slice Ao21 t299.length co21, .slice Ao22 t302.length co22] 26 (0, 0)) (by (with_reducible repeat (first | refine blk_drewN ?_ _ | refine blk_drew ?_ | refine blk_alloc ?_ _)); exact BK305.out) hb)
      have n4_ := Aside0.mk (below_step (by repeat (first | (with_reducible first | exact HB.out | apply below_alloc | apply pw_below_drewN | apply below_drew1 | refine below_set ?_ GE297.out | refine below_set ?_ GE305.out) | exact HB.out)) hb)
      clear HO301
      clear HO304
      clear BK297
      clear BK305
      clear HB
      have HO301 := n0_
      have HO304 := n1_
      have BK297 := n2_
      have BK305 := n3_
      have HB := n4_
      clear n0_ n1_ n2_ n3_ n4_
      (try clear hb)
      (try clear hb2)
      (try clear hk)
      (try clear hi)
      refine hK.out _ _ ⟨(blk_cell BK305.out 0).trans rfl, (blk_cell BK305.out 1).trans rfl, (blk_cell BK305.out 2).trans rfl, (blk_cell BK297.out 0).trans rfl, (blk_cell BK297.out 1).trans rfl, (blk_cell BK297.out 2).trans rfl⟩ (fun hHeld => ?_)
      clear hK K
      refine norm_ (a' := ?_) ?_ ?_
      rotate_left
      · show Act.put _ (some 33) _ = _
        simp only [Act.put, List.setIfInBounds_toArray, List.set_cons_zero, List.set_cons_succ, i64_w, i32_w]
        rfl
      refine pure_ (i := 1) (N := some 34) (v := ?_) (a' := ?_) #[true, true, false, false, false, false, false, false, false, false, false, false, false, false, false] rfl rfl (any_of HT_.out (by kernel_rfl)) (fun _ _ _ h => h) (Or.inl ⟨by rfl, ?_⟩) ?_ ?_
      rotate_left
      · intro w'
        go_simp
        with_reducible rfl
      rotate_left
      · simp only [Act.put, List.setIfInBounds_toArray, List.set_cons_zero, List.set_cons_succ, i64_w, i32_w]
        rfl
      refine take_ (i := 2) (N := some 35) (v := ?_) (a' := ?_) #[true, true, true, false, false, false, false, false, false, false, false, false, false, false, false] rfl rfl (take_ofW HT_.out HW_.out (by kernel_rfl)) (fun _ _ _ h => h) (Or.inl ⟨by rfl, ?_⟩) hHeld ?_ ?_
      rotate_left
      · rintro w' ⟨s0, s1, s2, s3, s4, s5⟩
        go_simp
        with_reducible rfl
      rotate_left
      · simp only [Act.put, List.setIfInBounds_toArray, List.set_cons_zero, List.set_cons_succ, i64_w, i32_w]
        rfl
      refine one_ (i := 3) (N := some 36) #[true, true, true, true, false, false, false, false, false, false, false, false, false, false, false] rfl rfl (one_of HT_.out (by kernel_rfl)) (by decide) (fun K hK => ?_)
      refine goes_ Try.func12 (by kernel_rfl) rfl #[.agg #[.int .i64 t298, .slice Ao21 t299.length co21, .slice Ao22 t302.length co22]] (by rfl) rfl rfl (by (try simp only [List.map_toArray, List.map_cons, List.map_nil]); first | done | rfl | (simp only [List.length_drop, List.length_take]; rfl)) ?_
      with_reducible refine (network_Check.calls t298 _ _ t299 _ _ t302 true _ ?side1 ?side2 ?side3 ?side4 A12.out).mono ?_
      (case side1 => repeat (first | exact (Kd.R_reads' HO301.out).2.2 | (with_reducible refine Kd.C_alloc ?_ _) | (with_reducible refine Kd.C_drewN ?_ _) | (with_reducible refine Kd.C_drew ?_)))
      (case side2 => exact (Kd.R_reads' HO301.out).2.1)
      (case side3 => repeat (first | exact (Kd.R_reads' HO304.out).2.2 | (with_reducible refine Kd.C_alloc ?_ _) | (with_reducible refine Kd.C_drewN ?_ _) | (with_reducible refine Kd.C_drew ?_)))
      (case side4 => exact (Kd.R_reads' HO304.out).2.1)
      rintro e w31 ⟨rfl, hb⟩
      refine ⟨_, rfl, ?_⟩
      have n0_ := Aside0.mk (Kd.R_below (by (with_reducible repeat (first | apply Kd.R_alloc | apply Kd.R_drewN | apply Kd.R_drew)); exact HO301.out) hb)
      have n1_ := Aside0.mk (Kd.R_below (by (with_reducible repeat (first | apply Kd.R_alloc | apply Kd.R_drewN | apply Kd.R_drew)); exact HO304.out) hb)
      have n2_ := Aside0.mk (blk_below (g := gb297) (o := .cells #[.int .i64 (wrap64 (1 + t307)), .int .i64 t308, .int .i64 t309] 46 (0, 0)) (by (with_reducible repeat (first | refine blk_drewN ?_ _ | refine blk_drew ?_ | refine blk_alloc ?_ _)); exact BK297.out) hb)
      have n3_ := Aside0.mk (blk_below (g := gb305) (o := .cells #[.int .i64 t298, .slice Ao21 t299.length co21, .slice Ao22 t302.length co22] 26 (0, 0)) (by (with_reducible repeat (first | refine blk_drewN ?_ _ | refine blk_drew ?_ | refine blk_alloc ?_ _)); exact BK305.out) hb)
      have n4_ := Aside0.mk (below_step (by repeat (first | (with_reducible first | exact HB.out | apply below_alloc | apply pw_below_drewN | apply below_drew1 | refine below_set ?_ GE297.out | refine below_set ?_ GE305.out) | exact HB.out)) hb)
      clear HO301
      clear HO304
      clear BK297
      clear BK305
      clear HB
      have HO301 := n0_
      have HO304 := n1_
      have BK297 := n2_
      have BK305 := n3_
      have HB := n4_
      clear n0_ n1_ n2_ n3_ n4_
      (try clear hb)
      (try clear hb2)
      (try clear hk)
      (try clear hi)
      refine hK.out _ _ ⟨(blk_cell BK305.out 0).trans rfl, (blk_cell BK305.out 1).trans rfl, (blk_cell BK305.out 2).trans rfl, (blk_cell BK297.out 0).trans rfl, (blk_cell BK297.out 1).trans rfl, (blk_cell BK297.out 2).trans rfl⟩ (fun hHeld => ?_)
      clear hK K
      refine norm_ (a' := ?_) ?_ ?_
      rotate_left
      · show Act.put _ (some 36) _ = _
        simp only [Act.put, List.setIfInBounds_toArray, List.set_cons_zero, List.set_cons_succ, i64_w, i32_w]
        rfl
      refine pure_ (i := 4) (N := some 37) (v := ?_) (a' := ?_) #[true, true, true, true, true, false, false, false, false, false, false, false, false, false, false] rfl rfl (any_of HT_.out (by kernel_rfl)) (fun _ _ _ h => h) (Or.inl ⟨by rfl, ?_⟩) ?_ ?_
      rotate_left
      · intro w'
        go_simp
        with_reducible rfl
      rotate_left
      · simp only [Act.put, List.setIfInBounds_toArray, List.set_cons_zero, List.set_cons_succ, i64_w, i32_w]
        rfl
      refine pure_ (i := 5) (N := some 38) (v := ?_) (a' := ?_) #[true, true, true, true, true, true, false, false, false, false, false, false, false, false, false] rfl rfl (any_of HT_.out (by kernel_rfl)) (fun _ _ _ h => h) (Or.inl ⟨by rfl, ?_⟩) ?_ ?_
      rotate_left
      · intro w'
        go_simp
        with_reducible rfl
      rotate_left
      · simp only [Act.put, List.setIfInBounds_toArray, List.set_cons_zero, List.set_cons_succ, i64_w, i32_w]
        rfl
      refine pure_ (i := 8) (N := some 41) (v := ?_) (a' := ?_) #[true, true, true, true, true, true, false, false, true, false, false, false, false, false, false] rfl rfl (any_of HT_.out (by kernel_rfl)) (fun _ _ _ h => h) (Or.inl ⟨by rfl, ?_⟩) ?_ ?_
      rotate_left
      · intro w'
        go_simp
        with_reducible rfl
      rotate_left
      · simp only [Act.put, List.setIfInBounds_toArray, List.set_cons_zero, List.set_cons_succ, i64_w, i32_w]
        rfl
      refine pure_ (i := 10) (N := some 43) (v := ?_) (a' := ?_) #[true, true, true, true, true, true, false, false, true, false, true, false, false, false, false] rfl rfl (any_of HT_.out (by kernel_rfl)) (fun _ _ _ h => h) (Or.inl ⟨by rfl, ?_⟩) ?_ ?_
      rotate_left
      · intro w'
        go_simp
        with_reducible rfl
      rotate_left
      · simp only [Act.put, List.setIfInBounds_toArray, List.set_cons_zero, List.set_cons_succ, i64_w, i32_w]
        rfl
      refine take_ (i := 6) (N := some 39) (v := ?_) (a' := ?_) #[true, true, true, true, true, true, true, false, true, false, true, false, false, false, false] rfl rfl (take_ofW HT_.out HW_.out (by kernel_rfl)) (fun _ _ _ h => h) (Or.inl ⟨by rfl, ?_⟩) hHeld ?_ ?_
      rotate_left
      · rintro w' ⟨s0, s1, s2, s3, s4, s5⟩
        go_simp
        with_reducible rfl
      rotate_left
      · simp only [Act.put, List.setIfInBounds_toArray, List.set_cons_zero, List.set_cons_succ, i64_w, i32_w]
        rfl
      refine take_ (i := 7) (N := some 40) (v := ?_) (a' := ?_) #[true, true, true, true, true, true, true, true, true, false, true, false, false, false, false] rfl rfl (take_ofW HT_.out HW_.out (by kernel_rfl)) (fun _ _ _ h => h) (Or.inl ⟨by rfl, ?_⟩) hHeld ?_ ?_
      rotate_left
      · rintro w' ⟨s0, s1, s2, s3, s4, s5⟩
        go_simp
        with_reducible rfl
      rotate_left
      · simp only [Act.put, List.setIfInBounds_toArray, List.set_cons_zero, List.set_cons_succ, i64_w, i32_w]
        rfl
      refine take_ (i := 11) (N := some 44) (v := ?_) (a' := ?_) #[true, true, true, true, true, true, true, true, true, false, true, true, false, false, false] rfl rfl (take_ofW HT_.out HW_.out (by kernel_rfl)) (fun _ _ _ h => h) (Or.inl ⟨by rfl, ?_⟩) hHeld ?_ ?_
      rotate_left
      · rintro w' ⟨s0, s1, s2, s3, s4, s5⟩
        go_simp
        with_reducible rfl
      rotate_left
      · simp only [Act.put, List.setIfInBounds_toArray, List.set_cons_zero, List.set_cons_succ, i64_w, i32_w]
        rfl
      refine one_ (i := 9) (N := some 42) #[true, true, true, true, true, true, true, true, true, true, true, true, false, false, false] rfl rfl (one_of HT_.out (by kernel_rfl)) (by decide) (fun K hK => ?_)
      refine goes_ Try.func14 (by kernel_rfl) rfl #[.agg #[.int .i64 t298, .slice Ao21 t299.length co21, .slice Ao22 t302.length co22], .slice A1 l1.length c1] (by rfl) rfl rfl (by (try simp only [List.map_toArray, List.map_cons, List.map_nil]); first | done | rfl | (simp only [List.length_drop, List.length_take]; rfl)) ?_
      with_reducible refine (railplankeep_Times.calls k t298 _ _ t299 _ _ t302 _ _ l1 t312 _ ?side1 ?side2 ?side3 ?side4 ?side5 ?side6 A14.out).mono ?_
      (case side1 => repeat (first | exact (Kd.R_reads' HO301.out).2.2 | (with_reducible refine Kd.C_alloc ?_ _) | (with_reducible refine Kd.C_drewN ?_ _) | (with_reducible refine Kd.C_drew ?_)))
      (case side2 => exact (Kd.R_reads' HO301.out).2.1)
      (case side3 => repeat (first | exact (Kd.R_reads' HO304.out).2.2 | (with_reducible refine Kd.C_alloc ?_ _) | (with_reducible refine Kd.C_drewN ?_ _) | (with_reducible refine Kd.C_drew ?_)))
      (case side4 => exact (Kd.R_reads' HO304.out).2.1)
      (case side5 => repeat (first | exact (Kd.C_below HR1.out HB.out) | (with_reducible refine Kd.C_alloc ?_ _) | (with_reducible refine Kd.C_drewN ?_ _) | (with_reducible refine Kd.C_drew ?_)))
      (case side6 => exact HC1.out)
      rintro e w32 ⟨v313, rfl, ho0, hb⟩
      refine ⟨_, rfl, ?_⟩
      have n0_ := Aside0.mk (Kd.R_below (by (with_reducible repeat (first | apply Kd.R_alloc | apply Kd.R_drewN | apply Kd.R_drew)); exact HO301.out) hb)
      have n1_ := Aside0.mk (Kd.R_below (by (with_reducible repeat (first | apply Kd.R_alloc | apply Kd.R_drewN | apply Kd.R_drew)); exact HO304.out) hb)
      have n2_ := Aside0.mk (Kd.R_lower ho0 (below_size (by repeat (first | (with_reducible first | exact HB.out | apply below_alloc | apply pw_below_drewN | apply below_drew1 | refine below_set ?_ GE297.out | refine below_set ?_ GE305.out) | exact HB.out))))
      have n3_ := Aside0.mk (blk_below (g := gb297) (o := .cells #[.int .i64 (wrap64 (1 + t307)), .int .i64 t308, .int .i64 t309] 46 (0, 0)) (by (with_reducible repeat (first | refine blk_drewN ?_ _ | refine blk_drew ?_ | refine blk_alloc ?_ _)); exact BK297.out) hb)
      have n4_ := Aside0.mk (blk_below (g := gb305) (o := .cells #[.int .i64 t298, .slice Ao21 t299.length co21, .slice Ao22 t302.length co22] 26 (0, 0)) (by (with_reducible repeat (first | refine blk_drewN ?_ _ | refine blk_drew ?_ | refine blk_alloc ?_ _)); exact BK305.out) hb)
      have n5_ := Aside0.mk (below_step (by repeat (first | (with_reducible first | exact HB.out | apply below_alloc | apply pw_below_drewN | apply below_drew1 | refine below_set ?_ GE297.out | refine below_set ?_ GE305.out) | exact HB.out)) hb)
      clear HO301
      clear HO304
      clear BK297
      clear BK305
      clear HB
      have HO301 := n0_
      have HO304 := n1_
      have HO314 := n2_
      have BK297 := n3_
      have BK305 := n4_
      have HB := n5_
      clear n0_ n1_ n2_ n3_ n4_ n5_
      (try clear hb)
      (try clear hb2)
      (try clear hk)
      (try clear hi)
      (try clear ho0)
      obtain ⟨Ao33, co33, eo33⟩ := Kd.R_slice HO314.out
      (first | subst eo33 | (injection eo33 with f1_ f2_ f3_; have f4_ := f1_.symm; have f5_ := f3_.symm; clear f1_ f2_ f3_; subst f4_; subst f5_))
      refine hK.out _ _ ⟨(blk_cell BK305.out 0).trans rfl, (blk_cell BK305.out 1).trans rfl, (blk_cell BK305.out 2).trans rfl, (blk_cell BK297.out 0).trans rfl, (blk_cell BK297.out 1).trans rfl, (blk_cell BK297.out 2).trans rfl⟩ (fun hHeld => ?_)
      clear hK K
      refine norm_ (a' := ?_) ?_ ?_
      rotate_left
      · show Act.put _ (some 42) _ = _
        simp only [Act.put, List.setIfInBounds_toArray, List.set_cons_zero, List.set_cons_succ, i64_w, i32_w]
        rfl
      refine one_ (i := 12) (N := some 45) #[true, true, true, true, true, true, true, true, true, true, true, true, true, false, false] rfl rfl (one_of HT_.out (by kernel_rfl)) (by decide) (fun K hK => ?_)
      refine goes_ Try.func21 (by kernel_rfl) rfl #[.agg #[.int .i64 t298, .slice Ao21 t299.length co21, .slice Ao22 t302.length co22], .slice Ao33 t312.length co33, .int .i64 (wrap64 (t306 - 1)), .agg #[.int .i64 (wrap64 (1 + t307)), .int .i64 t308, .int .i64 t309]] (by rfl) rfl rfl (by (try simp only [List.map_toArray, List.map_cons, List.map_nil]); first | done | rfl | (simp only [List.length_drop, List.length_take]; rfl)) ?_
      with_reducible refine (railplanlaw11_agrees.calls t298 _ _ t299 _ _ t302 _ _ t312 (wrap64 (t306 - 1)) (wrap64 (1 + t307)) t308 t309 t315 _ ?side1 ?side2 ?side3 ?side4 ?side5 ?side6 A15.out).mono ?_
      (case side1 => repeat (first | exact (Kd.R_reads' HO301.out).2.2 | (with_reducible refine Kd.C_alloc ?_ _) | (with_reducible refine Kd.C_drewN ?_ _) | (with_reducible refine Kd.C_drew ?_)))
      (case side2 => exact (Kd.R_reads' HO301.out).2.1)
      (case side3 => repeat (first | exact (Kd.R_reads' HO304.out).2.2 | (with_reducible refine Kd.C_alloc ?_ _) | (with_reducible refine Kd.C_drewN ?_ _) | (with_reducible refine Kd.C_drew ?_)))
      (case side4 => exact (Kd.R_reads' HO304.out).2.1)
      (case side5 => repeat (first | exact (Kd.R_reads' HO314.out).2.2 | (with_reducible refine Kd.C_alloc ?_ _) | (with_reducible refine Kd.C_drewN ?_ _) | (with_reducible refine Kd.C_drew ?_)))
      (case side6 => exact (Kd.R_reads' HO314.out).2.1)
      rintro e w34 ⟨rfl, hb⟩
      refine ⟨_, rfl, ?_⟩
      have n0_ := Aside0.mk (Kd.R_below (by (with_reducible repeat (first | apply Kd.R_alloc | apply Kd.R_drewN | apply Kd.R_drew)); exact HO301.out) hb)
      have n1_ := Aside0.mk (Kd.R_below (by (with_reducible repeat (first | apply Kd.R_alloc | apply Kd.R_drewN | apply Kd.R_drew)); exact HO304.out) hb)
      have n2_ := Aside0.mk (Kd.R_below (by (with_reducible repeat (first | apply Kd.R_alloc | apply Kd.R_drewN | apply Kd.R_drew)); exact HO314.out) hb)
      have n3_ := Aside0.mk (blk_below (g := gb297) (o := .cells #[.int .i64 (wrap64 (1 + t307)), .int .i64 t308, .int .i64 t309] 46 (0, 0)) (by (with_reducible repeat (first | refine blk_drewN ?_ _ | refine blk_drew ?_ | refine blk_alloc ?_ _)); exact BK297.out) hb)
      have n4_ := Aside0.mk (blk_below (g := gb305) (o := .cells #[.int .i64 t298, .slice Ao21 t299.length co21, .slice Ao22 t302.length co22] 26 (0, 0)) (by (with_reducible repeat (first | refine blk_drewN ?_ _ | refine blk_drew ?_ | refine blk_alloc ?_ _)); exact BK305.out) hb)
      have n5_ := Aside0.mk (below_step (by repeat (first | (with_reducible first | exact HB.out | apply below_alloc | apply pw_below_drewN | apply below_drew1 | refine below_set ?_ GE297.out | refine below_set ?_ GE305.out) | exact HB.out)) hb)
      clear HO301
      clear HO304
      clear HO314
      clear BK297
      clear BK305
      clear HB
      have HO301 := n0_
      have HO304 := n1_
      have HO314 := n2_
      have BK297 := n3_
      have BK305 := n4_
      have HB := n5_
      clear n0_ n1_ n2_ n3_ n4_ n5_
      (try clear hb)
      (try clear hb2)
      (try clear hk)
      (try clear hi)
      refine hK.out _ _ ⟨(blk_cell BK305.out 0).trans rfl, (blk_cell BK305.out 1).trans rfl, (blk_cell BK305.out 2).trans rfl, (blk_cell BK297.out 0).trans rfl, (blk_cell BK297.out 1).trans rfl, (blk_cell BK297.out 2).trans rfl⟩ (fun hHeld => ?_)
      clear hK K
      refine norm_ (a' := ?_) ?_ ?_
      rotate_left
      · show Act.put _ (some 45) _ = _
        simp only [Act.put, List.setIfInBounds_toArray, List.set_cons_zero, List.set_cons_succ, i64_w, i32_w]
        rfl
      refine pure_ (i := 13) (N := some 46) (v := ?_) (a' := ?_) #[true, true, true, true, true, true, true, true, true, true, true, true, true, true, false] rfl rfl (any_of HT_.out (by kernel_rfl)) (fun _ _ _ h => h) (Or.inl ⟨by rfl, ?_⟩) ?_ ?_
      rotate_left
      · intro w'
        go_simp
        with_reducible rfl
      rotate_left
      · simp only [Act.put, List.setIfInBounds_toArray, List.set_cons_zero, List.set_cons_succ, i64_w, i32_w]
        rfl
      refine pure_ (i := 14) (N := some 8) (v := ?_) (a' := ?_) #[true, true, true, true, true, true, true, true, true, true, true, true, true, true, true] rfl rfl (any_of HT_.out (by kernel_rfl)) (fun _ _ _ h => h) (Or.inl ⟨by rfl, ?_⟩) ?_ ?_
      rotate_left
      · intro w'
        go_simp
        with_reducible rfl
      rotate_left
      · simp only [Act.put, List.setIfInBounds_toArray, List.set_cons_zero, List.set_cons_succ, i64_w, i32_w]
        rfl
      refine done_ (done_of HT_.out (by kernel_rfl)) ?_
      try go_wp2
      go_ret
      exact ⟨by first | rfl | (simp [errW_none, errW_some] <;> rfl) | (simp [*, errW_none, errW_some] <;> rfl), by repeat (first | (with_reducible first | exact HB.out | apply below_alloc | apply pw_below_drewN | apply below_drew1 | refine below_set ?_ GE297.out | refine below_set ?_ GE305.out) | exact HB.out)⟩
    · replace c13 := Bool.eq_false_iff.mpr c13
      subst c13
      have H1 : (some false) = some r := by rw [if_neg (show ¬ (false = true) by decide)] at H; exact H
      clear H
      have H := H1
      clear H1
      obtain rfl := Option.some.inj H
      go_enter Try.func8, Try.ntmps8
      try go_wp2_with (first | ((with_reducible refine gate_dst (N := 7) rfl ?_); refine box_event ?hg (N := 7) ?hd (cs := #[.int .i64 a3_0, .int .i64 a3_1, .int .i64 a3_2]) (t := 46) ?hr ?_; (case hd => rfl); (case hg => rfl); (case hr => first | (go_simp; done) | (go_simp; rfl)); intro gb297 hg w35 hbox hb; have n0_ := Aside0.mk (below_step (by repeat (first | (with_reducible first | exact HB.out | apply below_alloc | apply pw_below_drewN | apply below_drew1) | exact HB.out)) hb); have n1_ := Aside0.mk (hbox); have n2_ := Aside0.mk ((by rw [hg]; exact (below_size (by repeat (first | (with_reducible first | exact HB.out | apply below_alloc | apply pw_below_drewN | apply below_drew1) | exact HB.out))) : w.heap.size ≤ gb297)); have n3_ := Aside0.mk ((by rw [hg]; exact (below_size (by repeat (first | (with_reducible first | exact HB.out | apply below_alloc | apply pw_below_drewN | apply below_drew1) | exact HB.out))) : w.heap.size ≤ gb297)); clear HB; have HB := n0_; have BK297 := n1_; have GW297 := n2_; have GE297 := n3_; clear n0_ n1_ n2_ n3_; clear hb hbox hg) | ((with_reducible refine gate_callee (f := 9) rfl ?_); refine goesL_ (some 12) rfl rfl Try.func9 (by kernel_rfl) rfl #[.slice A0 l0.length c0] rfl (by (try simp only [List.map_toArray, List.map_cons, List.map_nil]); first | done | rfl | (simp only [List.length_drop, List.length_take]; rfl)) ?_; (with_reducible refine (railplankeep_Network.calls k _ _ l0 t298 t299 t302 _ ?side1 ?side2 A5.out).mono ?_); (case side1 => repeat (first | exact (Kd.C_below HR0.out HB.out) | (with_reducible refine Kd.C_alloc ?_ _) | (with_reducible refine Kd.C_drewN ?_ _) | (with_reducible refine Kd.C_drew ?_))); (case side2 => exact HC0.out); rintro e w36 ⟨v300, v303, rfl, ho0, ho1, hb⟩; refine ⟨_, rfl, ?_⟩; have n0_ := Aside0.mk (Kd.R_lower (Kd.R_newB ho0 (g := gb297) (o := .cells #[.int .i64 a3_0, .int .i64 a3_1, .int .i64 a3_2] 46 (0, 0)) (by (with_reducible repeat (first | refine blk_drewN ?_ _ | refine blk_drew ?_ | refine blk_alloc ?_ _)); exact BK297.out)) (below_size (by repeat (first | (with_reducible first | exact HB.out | apply below_alloc | apply pw_below_drewN | apply below_drew1 | refine below_set ?_ GE297.out) | exact HB.out)))); have n1_ := Aside0.mk (Kd.R_lower ho1 (below_size (by repeat (first | (with_reducible first | exact HB.out | apply below_alloc | apply pw_below_drewN | apply below_drew1 | refine below_set ?_ GE297.out) | exact HB.out)))); have n2_ := Aside0.mk (blk_below (g := gb297) (o := .cells #[.int .i64 a3_0, .int .i64 a3_1, .int .i64 a3_2] 46 (0, 0)) (by (with_reducible repeat (first | refine blk_drewN ?_ _ | refine blk_drew ?_ | refine blk_alloc ?_ _)); exact BK297.out) hb); have n3_ := Aside0.mk (below_step (by repeat (first | (with_reducible first | exact HB.out | apply below_alloc | apply pw_below_drewN | apply below_drew1 | refine below_set ?_ GE297.out) | exact HB.out)) hb); clear BK297; clear HB; have HO301 := n0_; have HO304 := n1_; have BK297 := n2_; have HB := n3_; clear n0_ n1_ n2_ n3_; (try clear hb); (try clear hb2); (try clear hk); (try clear hi); (try clear ho0); (try clear ho1)) | ((with_reducible refine gate_dst (N := 9) rfl ?_); refine box_event ?hg (N := 9) ?hd (cs := #[.int .i64 0, .slice none 0 0, .slice none 0 0]) (t := 26) ?hr ?_; (case hd => rfl); (case hg => rfl); (case hr => first | (go_simp; done) | (go_simp; rfl)); intro gb305 hg w37 hbox hb; have n0_ := Aside0.mk (Kd.R_below (by (with_reducible repeat (first | apply Kd.R_alloc | apply Kd.R_drewN | apply Kd.R_drew)); exact HO301.out) hb); have n1_ := Aside0.mk (Kd.R_below (by (with_reducible repeat (first | apply Kd.R_alloc | apply Kd.R_drewN | apply Kd.R_drew)); exact HO304.out) hb); have n2_ := Aside0.mk (blk_below (g := gb297) (o := .cells #[.int .i64 a3_0, .int .i64 a3_1, .int .i64 a3_2] 46 (0, 0)) (by (with_reducible repeat (first | refine blk_drewN ?_ _ | refine blk_drew ?_ | refine blk_alloc ?_ _)); exact BK297.out) hb); have n3_ := Aside0.mk (below_step (by repeat (first | (with_reducible first | exact HB.out | apply below_alloc | apply pw_below_drewN | apply below_drew1 | refine below_set ?_ GE297.out) | exact HB.out)) hb); have n4_ := Aside0.mk (hbox); have n5_ := Aside0.mk ((by rw [hg]; exact (below_size (by repeat (first | (with_reducible first | exact HB.out | apply below_alloc | apply pw_below_drewN | apply below_drew1 | refine below_set ?_ GE297.out) | exact HB.out))) : w.heap.size ≤ gb305)); have n6_ := Aside0.mk ((by rw [hg]; exact (below_size (by repeat (first | (with_reducible first | exact HB.out | apply below_alloc | apply pw_below_drewN | apply below_drew1 | refine below_set ?_ GE297.out) | exact HB.out))) : w.heap.size ≤ gb305)); have n7_ := Aside0.mk ((by rw [hg]; exact Nat.ne_of_lt (blk_lt (g := gb297) (o := .cells #[.int .i64 a3_0, .int .i64 a3_1, .int .i64 a3_2] 46 (0, 0)) (by (with_reducible repeat (first | refine blk_drewN ?_ _ | refine blk_drew ?_ | refine blk_alloc ?_ _)); exact BK297.out)) : gb297 ≠ gb305)); have n8_ := Aside0.mk ((by rw [hg]; exact Nat.ne_of_gt (blk_lt (g := gb297) (o := .cells #[.int .i64 a3_0, .int .i64 a3_1, .int .i64 a3_2] 46 (0, 0)) (by (with_reducible repeat (first | refine blk_drewN ?_ _ | refine blk_drew ?_ | refine blk_alloc ?_ _)); exact BK297.out)) : gb305 ≠ gb297)); clear HO301; clear HO304; clear BK297; clear HB; have HO301 := n0_; have HO304 := n1_; have BK297 := n2_; have HB := n3_; have BK305 := n4_; have GW305 := n5_; have GE305 := n6_; have NB297_305 := n7_; have NB305_297 := n8_; clear n0_ n1_ n2_ n3_ n4_ n5_ n6_ n7_ n8_; clear hb hbox hg; have hnb38 := NB305_297.out; have hnc38 := NB297_305.out; have hcz39_0 : w37.cell? ⟨gb305, 0, none⟩ = some (.int .i64 0) := (blk_cell BK305.out 0).trans rfl; have hcz39_1 : w37.cell? ⟨gb305, 1, none⟩ = some (.slice none 0 0) := (blk_cell BK305.out 1).trans rfl; have hcz39_2 : w37.cell? ⟨gb305, 2, none⟩ = some (.slice none 0 0) := (blk_cell BK305.out 2).trans rfl; have hfz39_0 := blk_frozen BK305.out 0; have hfz39_1 := blk_frozen BK305.out 1; have hfz39_2 := blk_frozen BK305.out 2; obtain ⟨Ao40, co40, eo40⟩ := Kd.R_slice HO301.out; subst eo40; obtain ⟨Ao41, co41, eo41⟩ := Kd.R_slice HO304.out; subst eo41) | ((with_reducible refine gate_callee (f := 11) rfl ?_); refine goesL_ (some 18) rfl rfl Try.func11 (by kernel_rfl) rfl #[.int .i64 a2, .int .i64 (wrap64 ((t302.length : Int) + 2))] rfl (by (try simp only [List.map_toArray, List.map_cons, List.map_nil]); first | done | rfl | (simp only [List.length_drop, List.length_take]; rfl)) ?_; (with_reducible refine (railplankeep_Pick.calls a2 (wrap64 ((t302.length : Int) + 2)) t306 _ A6.out).mono ?_); rintro e w' ⟨rfl, ⟨nd, rfl⟩⟩; refine ⟨_, rfl, ?_⟩))
      have n0_ : Aside0 (Kd.R k46 46 (((w37.setCell ⟨gb305, 0, none⟩ (.int .i64 t298)).setCell ⟨gb305, 1, none⟩ (.slice Ao40 t299.length co40)).setCell ⟨gb305, 2, none⟩ (.slice Ao41 t302.length co41)) w.heap.size (fun k_ => k_ ≠ gb297) (.slice Ao40 t299.length co40) t299) := ⟨by (with_reducible repeat (first | apply Kd.R_alloc | apply Kd.R_drewN | apply Kd.R_drew)); exact Kd.R_mono (Kd.R_far (p := ⟨gb305, 2, none⟩) (Kd.R_far (p := ⟨gb305, 1, none⟩) (Kd.R_far (p := ⟨gb305, 0, none⟩) (Kd.R_types HO301.out BK305.out (by decide)) (fun _ hk => hk.2) (.int .i64 t298)) (fun _ hk => hk.2) (.slice Ao40 t299.length co40)) (fun _ hk => hk.2) (.slice Ao41 t302.length co41)) (fun _ hk => hk.1.2)⟩
      have n1_ : Aside0 (Kd.R k31 31 (((w37.setCell ⟨gb305, 0, none⟩ (.int .i64 t298)).setCell ⟨gb305, 1, none⟩ (.slice Ao40 t299.length co40)).setCell ⟨gb305, 2, none⟩ (.slice Ao41 t302.length co41)) w.heap.size (fun _ => True) (.slice Ao41 t302.length co41) t302) := ⟨by (with_reducible repeat (first | apply Kd.R_alloc | apply Kd.R_drewN | apply Kd.R_drew)); exact Kd.R_mono (Kd.R_far (p := ⟨gb305, 2, none⟩) (Kd.R_far (p := ⟨gb305, 1, none⟩) (Kd.R_far (p := ⟨gb305, 0, none⟩) (Kd.R_types HO304.out BK305.out (by decide)) (fun _ hk => hk.2) (.int .i64 t298)) (fun _ hk => hk.2) (.slice Ao40 t299.length co40)) (fun _ hk => hk.2) (.slice Ao41 t302.length co41)) (fun _ hk => trivial)⟩
      have n2_ : Aside0 ((((w37.setCell ⟨gb305, 0, none⟩ (.int .i64 t298)).setCell ⟨gb305, 1, none⟩ (.slice Ao40 t299.length co40)).setCell ⟨gb305, 2, none⟩ (.slice Ao41 t302.length co41)).heap[gb297]? = some (.cells #[.int .i64 a3_0, .int .i64 a3_1, .int .i64 a3_2] 46 (0, 0))) := ⟨by (with_reducible repeat (first | refine blk_drewN ?_ _ | refine blk_drew ?_ | refine blk_alloc ?_ _)); refine blk_far ?_ NB297_305.out _; (with_reducible repeat (first | refine blk_drewN ?_ _ | refine blk_drew ?_ | refine blk_alloc ?_ _)); refine blk_far ?_ NB297_305.out _; (with_reducible repeat (first | refine blk_drewN ?_ _ | refine blk_drew ?_ | refine blk_alloc ?_ _)); refine blk_far ?_ NB297_305.out _; (with_reducible repeat (first | refine blk_drewN ?_ _ | refine blk_drew ?_ | refine blk_alloc ?_ _)); exact BK297.out⟩
      have n3_ : Aside0 ((((w37.setCell ⟨gb305, 0, none⟩ (.int .i64 t298)).setCell ⟨gb305, 1, none⟩ (.slice Ao40 t299.length co40)).setCell ⟨gb305, 2, none⟩ (.slice Ao41 t302.length co41)).heap[gb305]? = some (.cells #[.int .i64 t298, .slice Ao40 t299.length co40, .slice Ao41 t302.length co41] 26 (0, 0))) := ⟨by (with_reducible repeat (first | refine blk_drewN ?_ _ | refine blk_drew ?_ | refine blk_alloc ?_ _)); refine blk_put (cs := #[.int .i64 t298, .slice Ao40 t299.length co40, .slice none 0 0]) ?_ 2 _ rfl; (with_reducible repeat (first | refine blk_drewN ?_ _ | refine blk_drew ?_ | refine blk_alloc ?_ _)); refine blk_put (cs := #[.int .i64 t298, .slice none 0 0, .slice none 0 0]) ?_ 1 _ rfl; (with_reducible repeat (first | refine blk_drewN ?_ _ | refine blk_drew ?_ | refine blk_alloc ?_ _)); refine blk_put (cs := #[.int .i64 0, .slice none 0 0, .slice none 0 0]) ?_ 0 _ rfl; (with_reducible repeat (first | refine blk_drewN ?_ _ | refine blk_drew ?_ | refine blk_alloc ?_ _)); exact BK305.out⟩
      have n4_ : Aside0 (Below w.heap.size w (((w37.setCell ⟨gb305, 0, none⟩ (.int .i64 t298)).setCell ⟨gb305, 1, none⟩ (.slice Ao40 t299.length co40)).setCell ⟨gb305, 2, none⟩ (.slice Ao41 t302.length co41))) := ⟨by repeat (first | (with_reducible first | exact HB.out | apply below_alloc | apply pw_below_drewN | apply below_drew1 | refine below_set ?_ GE297.out | refine below_set ?_ GE305.out) | exact HB.out)⟩
      (try clear HO301)
      (try clear HO304)
      (try clear BK297)
      (try clear BK305)
      (try clear HB)
      (try simp only [show ∀ (w_ : World) (n_ : Nat) (p_ : Addr) (v_ : Value), (w_.drewN n_).setCell p_ v_ = (w_.setCell p_ v_).drewN n_ from fun _ _ _ _ => rfl])
      generalize (((w37.setCell ⟨gb305, 0, none⟩ (.int .i64 t298)).setCell ⟨gb305, 1, none⟩ (.slice Ao40 t299.length co40)).setCell ⟨gb305, 2, none⟩ (.slice Ao41 t302.length co41)) = w42 at n0_ n1_ n2_ n3_ n4_ ⊢
      have HO301 := n0_
      have HO304 := n1_
      have BK297 := n2_
      have BK305 := n3_
      have HB := n4_
      clear n0_ n1_ n2_ n3_ n4_
      (try (rw [drewN_self w42]; generalize hq_ : World.drewN w42 _ = w42; have n0_ : Aside0 (Kd.R k46 46 w42 w.heap.size (fun k_ => k_ ≠ gb297) (.slice Ao40 t299.length co40) t299) := ⟨by rw [← hq_]; exact (by (with_reducible repeat (first | apply Kd.R_alloc | apply Kd.R_drewN | apply Kd.R_drew)); exact HO301.out)⟩; have n1_ : Aside0 (Kd.R k31 31 w42 w.heap.size (fun _ => True) (.slice Ao41 t302.length co41) t302) := ⟨by rw [← hq_]; exact (by (with_reducible repeat (first | apply Kd.R_alloc | apply Kd.R_drewN | apply Kd.R_drew)); exact HO304.out)⟩; have n2_ : Aside0 (w42.heap[gb297]? = some (.cells #[.int .i64 a3_0, .int .i64 a3_1, .int .i64 a3_2] 46 (0, 0))) := ⟨by rw [← hq_]; exact (by (with_reducible repeat (first | refine blk_drewN ?_ _ | refine blk_drew ?_ | refine blk_alloc ?_ _)); exact BK297.out)⟩; have n3_ : Aside0 (w42.heap[gb305]? = some (.cells #[.int .i64 t298, .slice Ao40 t299.length co40, .slice Ao41 t302.length co41] 26 (0, 0))) := ⟨by rw [← hq_]; exact (by (with_reducible repeat (first | refine blk_drewN ?_ _ | refine blk_drew ?_ | refine blk_alloc ?_ _)); exact BK305.out)⟩; have n4_ : Aside0 (Below w.heap.size w w42) := ⟨by rw [← hq_]; exact (by repeat (first | (with_reducible first | exact HB.out | apply below_alloc | apply pw_below_drewN | apply below_drew1 | refine below_set ?_ GE297.out | refine below_set ?_ GE305.out) | exact HB.out))⟩; clear HO301 HO304 BK297 BK305 HB hq_; have HO301 := n0_; have HO304 := n1_; have BK297 := n2_; have BK305 := n3_; have HB := n4_; clear n0_ n1_ n2_ n3_ n4_))
      have n0_ := Aside0.mk (Kd.R_drew HO301.out)
      have n1_ := Aside0.mk (Kd.R_drew HO304.out)
      have n2_ := Aside0.mk (blk_drew BK297.out)
      have n3_ := Aside0.mk (blk_drew BK305.out)
      have n4_ := Aside0.mk (below_drew1 HB.out)
      clear HO301
      clear HO304
      clear BK297
      clear BK305
      clear HB
      have HO301 := n0_
      have HO304 := n1_
      have BK297 := n2_
      have BK305 := n3_
      have HB := n4_
      clear n0_ n1_ n2_ n3_ n4_
      refine start_ (n := 16) (S := fun w' => w'.cell? ⟨gb297, 0, none⟩ = some (.int .i64 a3_0) ∧ w'.cell? ⟨gb297, 1, none⟩ = some (.int .i64 a3_1) ∧ w'.cell? ⟨gb297, 2, none⟩ = some (.int .i64 a3_2)) (ds := [11, 13, 15]) #[false, false, false, false, false, false, false, false, false, false, false, false, false, false, false, false] (by kernel_rfl) rfl rfl ⟨(blk_cell BK297.out 0).trans rfl, (blk_cell BK297.out 1).trans rfl, (blk_cell BK297.out 2).trans rfl⟩ (fun hHeld => ?_); refine with_tabW railplanlaw11_NetworkGenerated.tab3 railplanlaw11_NetworkGenerated.bits3 (fun HT_ HW_ => ?_)
      generalize w42.drew = w43 at HO301 HO304 BK297 BK305 HB hHeld ⊢
      refine pure_ (i := 0) (N := some 20) (v := ?_) (a' := ?_) #[true, false, false, false, false, false, false, false, false, false, false, false, false, false, false, false] rfl rfl (any_of HT_.out (by kernel_rfl)) (fun _ _ _ h => h) (Or.inl ⟨by rfl, ?_⟩) ?_ ?_
      rotate_left
      · intro w'
        go_simp
        with_reducible rfl
      rotate_left
      · simp only [Act.put, List.setIfInBounds_toArray, List.set_cons_zero, List.set_cons_succ, i64_w, i32_w]
        rfl
      refine pure_ (i := 4) (N := some 24) (v := ?_) (a' := ?_) #[true, false, false, false, true, false, false, false, false, false, false, false, false, false, false, false] rfl rfl (any_of HT_.out (by kernel_rfl)) (fun _ _ _ h => h) (Or.inl ⟨by rfl, ?_⟩) ?_ ?_
      rotate_left
      · intro w'
        go_simp
        with_reducible rfl
      rotate_left
      · simp only [Act.put, List.setIfInBounds_toArray, List.set_cons_zero, List.set_cons_succ, i64_w, i32_w]
        rfl
      refine pure_ (i := 7) (N := some 27) (v := ?_) (a' := ?_) #[true, false, false, false, true, false, false, true, false, false, false, false, false, false, false, false] rfl rfl (any_of HT_.out (by kernel_rfl)) (fun _ _ _ h => h) (Or.inl ⟨by rfl, ?_⟩) ?_ ?_
      rotate_left
      · intro w'
        go_simp
        with_reducible rfl
      rotate_left
      · simp only [Act.put, List.setIfInBounds_toArray, List.set_cons_zero, List.set_cons_succ, i64_w, i32_w]
        rfl
      refine take_ (i := 1) (N := some 21) (v := ?_) (a' := ?_) #[true, true, false, false, true, false, false, true, false, false, false, false, false, false, false, false] rfl rfl (take_ofW HT_.out HW_.out (by kernel_rfl)) (fun _ _ _ h => h) (Or.inl ⟨by rfl, ?_⟩) hHeld ?_ ?_
      rotate_left
      · rintro w' ⟨s0, s1, s2⟩
        go_simp
        with_reducible rfl
      rotate_left
      · simp only [Act.put, List.setIfInBounds_toArray, List.set_cons_zero, List.set_cons_succ, i64_w, i32_w]
        rfl
      refine take_ (i := 5) (N := some 25) (v := ?_) (a' := ?_) #[true, true, false, false, true, true, false, true, false, false, false, false, false, false, false, false] rfl rfl (take_ofW HT_.out HW_.out (by kernel_rfl)) (fun _ _ _ h => h) (Or.inl ⟨by rfl, ?_⟩) hHeld ?_ ?_
      rotate_left
      · rintro w' ⟨s0, s1, s2⟩
        go_simp
        with_reducible rfl
      rotate_left
      · simp only [Act.put, List.setIfInBounds_toArray, List.set_cons_zero, List.set_cons_succ, i64_w, i32_w]
        rfl
      refine take_ (i := 8) (N := some 28) (v := ?_) (a' := ?_) #[true, true, false, false, true, true, false, true, true, false, false, false, false, false, false, false] rfl rfl (take_ofW HT_.out HW_.out (by kernel_rfl)) (fun _ _ _ h => h) (Or.inl ⟨by rfl, ?_⟩) hHeld ?_ ?_
      rotate_left
      · rintro w' ⟨s0, s1, s2⟩
        go_simp
        with_reducible rfl
      rotate_left
      · simp only [Act.put, List.setIfInBounds_toArray, List.set_cons_zero, List.set_cons_succ, i64_w, i32_w]
        rfl
      refine one_ (i := 2) (N := some 22) #[true, true, true, false, true, true, false, true, true, false, false, false, false, false, false, false] rfl rfl (one_of HT_.out (by kernel_rfl)) (by decide) (fun K hK => ?_)
      refine goes_ Try.func11 (by kernel_rfl) rfl #[.int .i64 a3_0, .int .i64 2] (by rfl) rfl rfl (by (try simp only [List.map_toArray, List.map_cons, List.map_nil]); first | done | rfl | (simp only [List.length_drop, List.length_take]; rfl)) ?_
      with_reducible refine (railplankeep_Pick.calls a3_0 2 t307 _ A7.out).mono ?_
      rintro e w' ⟨rfl, ⟨nd, rfl⟩⟩
      refine ⟨_, rfl, ?_⟩
      refine hK.out _ _ ⟨(blk_cell BK297.out 0).trans rfl, (blk_cell BK297.out 1).trans rfl, (blk_cell BK297.out 2).trans rfl⟩ (fun hHeld => ?_)
      clear hK K
      refine norm_ (a' := ?_) ?_ ?_
      rotate_left
      · show Act.put _ (some 22) _ = _
        simp only [Act.put, List.setIfInBounds_toArray, List.set_cons_zero, List.set_cons_succ, i64_w, i32_w]
        rfl
      refine pure_ (i := 3) (N := some 23) (v := ?_) (a' := ?_) #[true, true, true, true, true, true, false, true, true, false, false, false, false, false, false, false] rfl rfl (any_of HT_.out (by kernel_rfl)) (fun _ _ _ h => h) (Or.inl ⟨by rfl, ?_⟩) ?_ ?_
      rotate_left
      · intro w'
        go_simp
        with_reducible rfl
      rotate_left
      · simp only [Act.put, List.setIfInBounds_toArray, List.set_cons_zero, List.set_cons_succ, i64_w, i32_w]
        rfl
      refine pure_ (i := 10) (N := some 30) (v := ?_) (a' := ?_) #[true, true, true, true, true, true, false, true, true, false, true, false, false, false, false, false] rfl rfl (any_of HT_.out (by kernel_rfl)) (fun _ _ _ h => h) (Or.inl ⟨by rfl, ?_⟩) ?_ ?_
      rotate_left
      · intro w'
        go_simp
        with_reducible rfl
      rotate_left
      · simp only [Act.put, List.setIfInBounds_toArray, List.set_cons_zero, List.set_cons_succ, i64_w, i32_w]
        rfl
      refine one_ (i := 6) (N := some 26) #[true, true, true, true, true, true, true, true, true, false, true, false, false, false, false, false] rfl rfl (one_of HT_.out (by kernel_rfl)) (by decide) (fun K hK => ?_)
      refine goes_ Try.func11 (by kernel_rfl) rfl #[.int .i64 a3_1, .int .i64 3] (by rfl) rfl rfl (by (try simp only [List.map_toArray, List.map_cons, List.map_nil]); first | done | rfl | (simp only [List.length_drop, List.length_take]; rfl)) ?_
      with_reducible refine (railplankeep_Pick.calls a3_1 3 t308 _ A8.out).mono ?_
      rintro e w' ⟨rfl, ⟨nd, rfl⟩⟩
      refine ⟨_, rfl, ?_⟩
      refine hK.out _ _ ⟨(blk_cell BK297.out 0).trans rfl, (blk_cell BK297.out 1).trans rfl, (blk_cell BK297.out 2).trans rfl⟩ (fun hHeld => ?_)
      clear hK K
      refine norm_ (a' := ?_) ?_ ?_
      rotate_left
      · show Act.put _ (some 26) _ = _
        simp only [Act.put, List.setIfInBounds_toArray, List.set_cons_zero, List.set_cons_succ, i64_w, i32_w]
        rfl
      refine one_ (i := 9) (N := some 29) #[true, true, true, true, true, true, true, true, true, true, true, false, false, false, false, false] rfl rfl (one_of HT_.out (by kernel_rfl)) (by decide) (fun K hK => ?_)
      refine goes_ Try.func11 (by kernel_rfl) rfl #[.int .i64 a3_2, .int .i64 3] (by rfl) rfl rfl (by (try simp only [List.map_toArray, List.map_cons, List.map_nil]); first | done | rfl | (simp only [List.length_drop, List.length_take]; rfl)) ?_
      with_reducible refine (railplankeep_Pick.calls a3_2 3 t309 _ A9.out).mono ?_
      rintro e w' ⟨rfl, ⟨nd, rfl⟩⟩
      refine ⟨_, rfl, ?_⟩
      refine hK.out _ _ ⟨(blk_cell BK297.out 0).trans rfl, (blk_cell BK297.out 1).trans rfl, (blk_cell BK297.out 2).trans rfl⟩ (fun hHeld => ?_)
      clear hK K
      refine norm_ (a' := ?_) ?_ ?_
      rotate_left
      · show Act.put _ (some 29) _ = _
        simp only [Act.put, List.setIfInBounds_toArray, List.set_cons_zero, List.set_cons_succ, i64_w, i32_w]
        rfl
      refine last_ (i := 11) (N := none) #[true, true, true, true, true, true, true, true, true, true, true, true, false, false, false, false] rfl rfl (one_of HT_.out (by kernel_rfl)) (by decide) (fun K hK => ?_)
      have hs44 : w43.cell? ⟨gb297, 0, none⟩ = some (.int .i64 a3_0) := (blk_cell BK297.out 0).trans rfl
      have hfs44 := blk_frozen BK297.out 0
      have hns44_1 := NB305_297.out
      have hms44_1 := NB297_305.out
      refine skip_ (w1 := ?_) (by rfl) rfl ?_ ?_
      rotate_left
      · go_simp
        rfl
      refine hK.out _ _ ?_
      clear hK K
      refine pure_ (i := 12) (N := some 31) (v := ?_) (a' := ?_) #[true, true, true, true, true, true, true, true, true, true, true, true, true, false, false, false] rfl rfl (any_of HT_.out (by kernel_rfl)) (fun _ _ _ h => h) (Or.inl ⟨by rfl, ?_⟩) ?_ ?_
      rotate_left
      · intro w'
        go_simp
        with_reducible rfl
      rotate_left
      · simp only [Act.put, List.setIfInBounds_toArray, List.set_cons_zero, List.set_cons_succ, i64_w, i32_w]
        rfl
      refine last_ (i := 13) (N := none) #[true, true, true, true, true, true, true, true, true, true, true, true, true, true, false, false] rfl rfl (one_of HT_.out (by kernel_rfl)) (by decide) (fun K hK => ?_)
      have hs45 : w43.cell? ⟨gb297, 1, none⟩ = some (.int .i64 a3_1) := (blk_cell BK297.out 1).trans rfl
      have hfs45 := blk_frozen BK297.out 1
      have hns45_1 := NB305_297.out
      have hms45_1 := NB297_305.out
      refine skip_ (w1 := ?_) (by rfl) rfl ?_ ?_
      rotate_left
      · go_simp
        rfl
      refine hK.out _ _ ?_
      clear hK K
      refine pure_ (i := 14) (N := some 32) (v := ?_) (a' := ?_) #[true, true, true, true, true, true, true, true, true, true, true, true, true, true, true, false] rfl rfl (any_of HT_.out (by kernel_rfl)) (fun _ _ _ h => h) (Or.inl ⟨by rfl, ?_⟩) ?_ ?_
      rotate_left
      · intro w'
        go_simp
        with_reducible rfl
      rotate_left
      · simp only [Act.put, List.setIfInBounds_toArray, List.set_cons_zero, List.set_cons_succ, i64_w, i32_w]
        rfl
      refine last_ (i := 15) (N := none) #[true, true, true, true, true, true, true, true, true, true, true, true, true, true, true, true] rfl rfl (one_of HT_.out (by kernel_rfl)) (by decide) (fun K hK => ?_)
      have hs46 : w43.cell? ⟨gb297, 2, none⟩ = some (.int .i64 a3_2) := (blk_cell BK297.out 2).trans rfl
      have hfs46 := blk_frozen BK297.out 2
      have hns46_1 := NB305_297.out
      have hms46_1 := NB297_305.out
      refine skip_ (w1 := ?_) (by rfl) rfl ?_ ?_
      rotate_left
      · go_simp
        rfl
      refine hK.out _ _ ?_
      clear hK K
      refine done_ (done_of HT_.out (by kernel_rfl)) ?_
      try go_wp2
      have n0_ : Aside0 (Kd.R k46 46 (((w43.setCell ⟨gb297, 0, none⟩ (.int .i64 (wrap64 (1 + t307)))).setCell ⟨gb297, 1, none⟩ (.int .i64 t308)).setCell ⟨gb297, 2, none⟩ (.int .i64 t309)) w.heap.size (fun k_ => k_ ≠ gb297) (.slice Ao40 t299.length co40) t299) := ⟨by (with_reducible repeat (first | apply Kd.R_alloc | apply Kd.R_drewN | apply Kd.R_drew)); exact Kd.R_mono (Kd.R_far (p := ⟨gb297, 2, none⟩) (Kd.R_far (p := ⟨gb297, 1, none⟩) (Kd.R_far (p := ⟨gb297, 0, none⟩) (Kd.R_mono HO301.out (fun k_ hk => (⟨hk, hk⟩ : _ ∧ k_ ≠ gb297))) (fun _ hk => hk.2) (.int .i64 (wrap64 (1 + t307)))) (fun _ hk => hk.2) (.int .i64 t308)) (fun _ hk => hk.2) (.int .i64 t309)) (fun _ hk => hk.1)⟩
      have n1_ : Aside0 (Kd.R k31 31 (((w43.setCell ⟨gb297, 0, none⟩ (.int .i64 (wrap64 (1 + t307)))).setCell ⟨gb297, 1, none⟩ (.int .i64 t308)).setCell ⟨gb297, 2, none⟩ (.int .i64 t309)) w.heap.size (fun _ => True) (.slice Ao41 t302.length co41) t302) := ⟨by (with_reducible repeat (first | apply Kd.R_alloc | apply Kd.R_drewN | apply Kd.R_drew)); exact Kd.R_mono (Kd.R_far (p := ⟨gb297, 2, none⟩) (Kd.R_far (p := ⟨gb297, 1, none⟩) (Kd.R_far (p := ⟨gb297, 0, none⟩) (Kd.R_types HO304.out BK297.out (by decide)) (fun _ hk => hk.2) (.int .i64 (wrap64 (1 + t307)))) (fun _ hk => hk.2) (.int .i64 t308)) (fun _ hk => hk.2) (.int .i64 t309)) (fun _ hk => trivial)⟩
      have n2_ : Aside0 ((((w43.setCell ⟨gb297, 0, none⟩ (.int .i64 (wrap64 (1 + t307)))).setCell ⟨gb297, 1, none⟩ (.int .i64 t308)).setCell ⟨gb297, 2, none⟩ (.int .i64 t309)).heap[gb297]? = some (.cells #[.int .i64 (wrap64 (1 + t307)), .int .i64 t308, .int .i64 t309] 46 (0, 0))) := ⟨by (with_reducible repeat (first | refine blk_drewN ?_ _ | refine blk_drew ?_ | refine blk_alloc ?_ _)); refine blk_put (cs := #[.int .i64 (wrap64 (1 + t307)), .int .i64 t308, .int .i64 a3_2]) ?_ 2 _ rfl; (with_reducible repeat (first | refine blk_drewN ?_ _ | refine blk_drew ?_ | refine blk_alloc ?_ _)); refine blk_put (cs := #[.int .i64 (wrap64 (1 + t307)), .int .i64 a3_1, .int .i64 a3_2]) ?_ 1 _ rfl; (with_reducible repeat (first | refine blk_drewN ?_ _ | refine blk_drew ?_ | refine blk_alloc ?_ _)); refine blk_put (cs := #[.int .i64 a3_0, .int .i64 a3_1, .int .i64 a3_2]) ?_ 0 _ rfl; (with_reducible repeat (first | refine blk_drewN ?_ _ | refine blk_drew ?_ | refine blk_alloc ?_ _)); exact BK297.out⟩
      have n3_ : Aside0 ((((w43.setCell ⟨gb297, 0, none⟩ (.int .i64 (wrap64 (1 + t307)))).setCell ⟨gb297, 1, none⟩ (.int .i64 t308)).setCell ⟨gb297, 2, none⟩ (.int .i64 t309)).heap[gb305]? = some (.cells #[.int .i64 t298, .slice Ao40 t299.length co40, .slice Ao41 t302.length co41] 26 (0, 0))) := ⟨by (with_reducible repeat (first | refine blk_drewN ?_ _ | refine blk_drew ?_ | refine blk_alloc ?_ _)); refine blk_far ?_ NB305_297.out _; (with_reducible repeat (first | refine blk_drewN ?_ _ | refine blk_drew ?_ | refine blk_alloc ?_ _)); refine blk_far ?_ NB305_297.out _; (with_reducible repeat (first | refine blk_drewN ?_ _ | refine blk_drew ?_ | refine blk_alloc ?_ _)); refine blk_far ?_ NB305_297.out _; (with_reducible repeat (first | refine blk_drewN ?_ _ | refine blk_drew ?_ | refine blk_alloc ?_ _)); exact BK305.out⟩
      have n4_ : Aside0 (Below w.heap.size w (((w43.setCell ⟨gb297, 0, none⟩ (.int .i64 (wrap64 (1 + t307)))).setCell ⟨gb297, 1, none⟩ (.int .i64 t308)).setCell ⟨gb297, 2, none⟩ (.int .i64 t309))) := ⟨by repeat (first | (with_reducible first | exact HB.out | apply below_alloc | apply pw_below_drewN | apply below_drew1 | refine below_set ?_ GE297.out | refine below_set ?_ GE305.out) | exact HB.out)⟩
      (try clear HO301)
      (try clear HO304)
      (try clear BK297)
      (try clear BK305)
      (try clear HB)
      (try simp only [show ∀ (w_ : World) (n_ : Nat) (p_ : Addr) (v_ : Value), (w_.drewN n_).setCell p_ v_ = (w_.setCell p_ v_).drewN n_ from fun _ _ _ _ => rfl])
      generalize (((w43.setCell ⟨gb297, 0, none⟩ (.int .i64 (wrap64 (1 + t307)))).setCell ⟨gb297, 1, none⟩ (.int .i64 t308)).setCell ⟨gb297, 2, none⟩ (.int .i64 t309)) = w47 at n0_ n1_ n2_ n3_ n4_ ⊢
      have HO301 := n0_
      have HO304 := n1_
      have BK297 := n2_
      have BK305 := n3_
      have HB := n4_
      clear n0_ n1_ n2_ n3_ n4_
      (try (rw [drewN_self w47]; generalize hq_ : World.drewN w47 _ = w47; have n0_ : Aside0 (Kd.R k46 46 w47 w.heap.size (fun k_ => k_ ≠ gb297) (.slice Ao40 t299.length co40) t299) := ⟨by rw [← hq_]; exact (by (with_reducible repeat (first | apply Kd.R_alloc | apply Kd.R_drewN | apply Kd.R_drew)); exact HO301.out)⟩; have n1_ : Aside0 (Kd.R k31 31 w47 w.heap.size (fun _ => True) (.slice Ao41 t302.length co41) t302) := ⟨by rw [← hq_]; exact (by (with_reducible repeat (first | apply Kd.R_alloc | apply Kd.R_drewN | apply Kd.R_drew)); exact HO304.out)⟩; have n2_ : Aside0 (w47.heap[gb297]? = some (.cells #[.int .i64 (wrap64 (1 + t307)), .int .i64 t308, .int .i64 t309] 46 (0, 0))) := ⟨by rw [← hq_]; exact (by (with_reducible repeat (first | refine blk_drewN ?_ _ | refine blk_drew ?_ | refine blk_alloc ?_ _)); exact BK297.out)⟩; have n3_ : Aside0 (w47.heap[gb305]? = some (.cells #[.int .i64 t298, .slice Ao40 t299.length co40, .slice Ao41 t302.length co41] 26 (0, 0))) := ⟨by rw [← hq_]; exact (by (with_reducible repeat (first | refine blk_drewN ?_ _ | refine blk_drew ?_ | refine blk_alloc ?_ _)); exact BK305.out)⟩; have n4_ : Aside0 (Below w.heap.size w w47) := ⟨by rw [← hq_]; exact (by repeat (first | (with_reducible first | exact HB.out | apply below_alloc | apply pw_below_drewN | apply below_drew1 | refine below_set ?_ GE297.out | refine below_set ?_ GE305.out) | exact HB.out))⟩; clear HO301 HO304 BK297 BK305 HB hq_; have HO301 := n0_; have HO304 := n1_; have BK297 := n2_; have BK305 := n3_; have HB := n4_; clear n0_ n1_ n2_ n3_ n4_))
      have n0_ := Aside0.mk (Kd.R_drew HO301.out)
      have n1_ := Aside0.mk (Kd.R_drew HO304.out)
      have n2_ := Aside0.mk (blk_drew BK297.out)
      have n3_ := Aside0.mk (blk_drew BK305.out)
      have n4_ := Aside0.mk (below_drew1 HB.out)
      clear HO301
      clear HO304
      clear BK297
      clear BK305
      clear HB
      have HO301 := n0_
      have HO304 := n1_
      have BK297 := n2_
      have BK305 := n3_
      have HB := n4_
      clear n0_ n1_ n2_ n3_ n4_
      refine start_ (n := 15) (S := fun w' => w'.cell? ⟨gb305, 0, none⟩ = some (.int .i64 t298) ∧ w'.cell? ⟨gb305, 1, none⟩ = some (.slice Ao40 t299.length co40) ∧ w'.cell? ⟨gb305, 2, none⟩ = some (.slice Ao41 t302.length co41)) (ds := []) #[false, false, false, false, false, false, false, false, false, false, false, false, false, false, false] (by kernel_rfl) rfl rfl ⟨(blk_cell BK305.out 0).trans rfl, (blk_cell BK305.out 1).trans rfl, (blk_cell BK305.out 2).trans rfl⟩ (fun hHeld => ?_); refine with_tabW railplanlaw11_NetworkGenerated.tab4 railplanlaw11_NetworkGenerated.bits4 (fun HT_ HW_ => ?_)
      generalize w47.drew = w48 at HO301 HO304 BK297 BK305 HB hHeld ⊢
      refine one_ (i := 0) (N := some 33) #[true, false, false, false, false, false, false, false, false, false, false, false, false, false, false] rfl rfl (one_of HT_.out (by kernel_rfl)) (by decide) (fun K hK => ?_)
      refine goes_ Try.func10 (by kernel_rfl) rfl #[] (by rfl) rfl rfl (by (try simp only [List.map_toArray, List.map_cons, List.map_nil]); first | done | rfl | (simp only [List.length_drop, List.length_take]; rfl)) ?_
      with_reducible refine (railplanlaw11_awake.calls  true _ A10.out).mono ?_
      rintro e w49 ⟨rfl, hb⟩
      refine ⟨_, rfl, ?_⟩
      have n0_ := Aside0.mk (Kd.R_below (by (with_reducible repeat (first | apply Kd.R_alloc | apply Kd.R_drewN | apply Kd.R_drew)); exact HO301.out) hb)
      have n1_ := Aside0.mk (Kd.R_below (by (with_reducible repeat (first | apply Kd.R_alloc | apply Kd.R_drewN | apply Kd.R_drew)); exact HO304.out) hb)
      have n2_ := Aside0.mk (blk_below (g := gb297) (o := .cells #[.int .i64 (wrap64 (1 + t307)), .int .i64 t308, .int .i64 t309] 46 (0, 0)) (by (with_reducible repeat (first | refine blk_drewN ?_ _ | refine blk_drew ?_ | refine blk_alloc ?_ _)); exact BK297.out) hb)
      have n3_ := Aside0.mk (blk_below (g := gb305) (o := .cells #[.int .i64 t298, .slice Ao40 t299.length co40, .slice Ao41 t302.length co41] 26 (0, 0)) (by (with_reducible repeat (first | refine blk_drewN ?_ _ | refine blk_drew ?_ | refine blk_alloc ?_ _)); exact BK305.out) hb)
      have n4_ := Aside0.mk (below_step (by repeat (first | (with_reducible first | exact HB.out | apply below_alloc | apply pw_below_drewN | apply below_drew1 | refine below_set ?_ GE297.out | refine below_set ?_ GE305.out) | exact HB.out)) hb)
      clear HO301
      clear HO304
      clear BK297
      clear BK305
      clear HB
      have HO301 := n0_
      have HO304 := n1_
      have BK297 := n2_
      have BK305 := n3_
      have HB := n4_
      clear n0_ n1_ n2_ n3_ n4_
      (try clear hb)
      (try clear hb2)
      (try clear hk)
      (try clear hi)
      refine hK.out _ _ ⟨(blk_cell BK305.out 0).trans rfl, (blk_cell BK305.out 1).trans rfl, (blk_cell BK305.out 2).trans rfl⟩ (fun hHeld => ?_)
      clear hK K
      refine norm_ (a' := ?_) ?_ ?_
      rotate_left
      · show Act.put _ (some 33) _ = _
        simp only [Act.put, List.setIfInBounds_toArray, List.set_cons_zero, List.set_cons_succ, i64_w, i32_w]
        rfl
      refine pure_ (i := 1) (N := some 34) (v := ?_) (a' := ?_) #[true, true, false, false, false, false, false, false, false, false, false, false, false, false, false] rfl rfl (any_of HT_.out (by kernel_rfl)) (fun _ _ _ h => h) (Or.inl ⟨by rfl, ?_⟩) ?_ ?_
      rotate_left
      · intro w'
        go_simp
        with_reducible rfl
      rotate_left
      · simp only [Act.put, List.setIfInBounds_toArray, List.set_cons_zero, List.set_cons_succ, i64_w, i32_w]
        rfl
      refine take_ (i := 2) (N := some 35) (v := ?_) (a' := ?_) #[true, true, true, false, false, false, false, false, false, false, false, false, false, false, false] rfl rfl (take_ofW HT_.out HW_.out (by kernel_rfl)) (fun _ _ _ h => h) (Or.inl ⟨by rfl, ?_⟩) hHeld ?_ ?_
      rotate_left
      · rintro w' ⟨s0, s1, s2⟩
        go_simp
        with_reducible rfl
      rotate_left
      · simp only [Act.put, List.setIfInBounds_toArray, List.set_cons_zero, List.set_cons_succ, i64_w, i32_w]
        rfl
      refine one_ (i := 3) (N := some 36) #[true, true, true, true, false, false, false, false, false, false, false, false, false, false, false] rfl rfl (one_of HT_.out (by kernel_rfl)) (by decide) (fun K hK => ?_)
      refine goes_ Try.func12 (by kernel_rfl) rfl #[.agg #[.int .i64 t298, .slice Ao40 t299.length co40, .slice Ao41 t302.length co41]] (by rfl) rfl rfl (by (try simp only [List.map_toArray, List.map_cons, List.map_nil]); first | done | rfl | (simp only [List.length_drop, List.length_take]; rfl)) ?_
      with_reducible refine (network_Check.calls t298 _ _ t299 _ _ t302 false _ ?side1 ?side2 ?side3 ?side4 A12.out).mono ?_
      (case side1 => repeat (first | exact (Kd.R_reads' HO301.out).2.2 | (with_reducible refine Kd.C_alloc ?_ _) | (with_reducible refine Kd.C_drewN ?_ _) | (with_reducible refine Kd.C_drew ?_)))
      (case side2 => exact (Kd.R_reads' HO301.out).2.1)
      (case side3 => repeat (first | exact (Kd.R_reads' HO304.out).2.2 | (with_reducible refine Kd.C_alloc ?_ _) | (with_reducible refine Kd.C_drewN ?_ _) | (with_reducible refine Kd.C_drew ?_)))
      (case side4 => exact (Kd.R_reads' HO304.out).2.1)
      rintro e w50 ⟨rfl, hb⟩
      refine ⟨_, rfl, ?_⟩
      have n0_ := Aside0.mk (Kd.R_below (by (with_reducible repeat (first | apply Kd.R_alloc | apply Kd.R_drewN | apply Kd.R_drew)); exact HO301.out) hb)
      have n1_ := Aside0.mk (Kd.R_below (by (with_reducible repeat (first | apply Kd.R_alloc | apply Kd.R_drewN | apply Kd.R_drew)); exact HO304.out) hb)
      have n2_ := Aside0.mk (blk_below (g := gb297) (o := .cells #[.int .i64 (wrap64 (1 + t307)), .int .i64 t308, .int .i64 t309] 46 (0, 0)) (by (with_reducible repeat (first | refine blk_drewN ?_ _ | refine blk_drew ?_ | refine blk_alloc ?_ _)); exact BK297.out) hb)
      have n3_ := Aside0.mk (blk_below (g := gb305) (o := .cells #[.int .i64 t298, .slice Ao40 t299.length co40, .slice Ao41 t302.length co41] 26 (0, 0)) (by (with_reducible repeat (first | refine blk_drewN ?_ _ | refine blk_drew ?_ | refine blk_alloc ?_ _)); exact BK305.out) hb)
      have n4_ := Aside0.mk (below_step (by repeat (first | (with_reducible first | exact HB.out | apply below_alloc | apply pw_below_drewN | apply below_drew1 | refine below_set ?_ GE297.out | refine below_set ?_ GE305.out) | exact HB.out)) hb)
      clear HO301
      clear HO304
      clear BK297
      clear BK305
      clear HB
      have HO301 := n0_
      have HO304 := n1_
      have BK297 := n2_
      have BK305 := n3_
      have HB := n4_
      clear n0_ n1_ n2_ n3_ n4_
      (try clear hb)
      (try clear hb2)
      (try clear hk)
      (try clear hi)
      refine hK.out _ _ ⟨(blk_cell BK305.out 0).trans rfl, (blk_cell BK305.out 1).trans rfl, (blk_cell BK305.out 2).trans rfl⟩ (fun hHeld => ?_)
      clear hK K
      refine norm_ (a' := ?_) ?_ ?_
      rotate_left
      · show Act.put _ (some 36) _ = _
        simp only [Act.put, List.setIfInBounds_toArray, List.set_cons_zero, List.set_cons_succ, i64_w, i32_w]
        rfl
      refine pure_ (i := 4) (N := some 37) (v := ?_) (a' := ?_) #[true, true, true, true, true, false, false, false, false, false, false, false, false, false, false] rfl rfl (any_of HT_.out (by kernel_rfl)) (fun _ _ _ h => h) (Or.inl ⟨by rfl, ?_⟩) ?_ ?_
      rotate_left
      · intro w'
        go_simp
        with_reducible rfl
      rotate_left
      · simp only [Act.put, List.setIfInBounds_toArray, List.set_cons_zero, List.set_cons_succ, i64_w, i32_w]
        rfl
      refine pure_ (i := 5) (N := some 38) (v := ?_) (a' := ?_) #[true, true, true, true, true, true, false, false, false, false, false, false, false, false, false] rfl rfl (any_of HT_.out (by kernel_rfl)) (fun _ _ _ h => h) (Or.inl ⟨by rfl, ?_⟩) ?_ ?_
      rotate_left
      · intro w'
        go_simp
        with_reducible rfl
      rotate_left
      · simp only [Act.put, List.setIfInBounds_toArray, List.set_cons_zero, List.set_cons_succ, i64_w, i32_w]
        rfl
      refine pure_ (i := 6) (N := some 39) (v := undef) (a' := ?_) #[true, true, true, true, true, true, true, false, false, false, false, false, false, false, false] rfl rfl (any_of HT_.out (by kernel_rfl)) (fun _ _ _ h => h) (Or.inr ⟨by rfl, rfl⟩) ?_ ?_
      rotate_left
      · simp only [Act.put, List.setIfInBounds_toArray, List.set_cons_zero, List.set_cons_succ, i64_w, i32_w]
        rfl
      refine pure_ (i := 7) (N := some 40) (v := undef) (a' := ?_) #[true, true, true, true, true, true, true, true, false, false, false, false, false, false, false] rfl rfl (any_of HT_.out (by kernel_rfl)) (fun _ _ _ h => h) (Or.inr ⟨by rfl, rfl⟩) ?_ ?_
      rotate_left
      · simp only [Act.put, List.setIfInBounds_toArray, List.set_cons_zero, List.set_cons_succ, i64_w, i32_w]
        rfl
      refine pure_ (i := 8) (N := some 41) (v := undef) (a' := ?_) #[true, true, true, true, true, true, true, true, true, false, false, false, false, false, false] rfl rfl (any_of HT_.out (by kernel_rfl)) (fun _ _ _ h => h) (Or.inr ⟨by rfl, rfl⟩) ?_ ?_
      rotate_left
      · simp only [Act.put, List.setIfInBounds_toArray, List.set_cons_zero, List.set_cons_succ, i64_w, i32_w]
        rfl
      refine pure_ (i := 9) (N := some 42) (v := undef) (a' := ?_) #[true, true, true, true, true, true, true, true, true, true, false, false, false, false, false] rfl rfl (any_of HT_.out (by kernel_rfl)) (fun _ _ _ h => h) (Or.inr ⟨by rfl, rfl⟩) ?_ ?_
      rotate_left
      · simp only [Act.put, List.setIfInBounds_toArray, List.set_cons_zero, List.set_cons_succ, i64_w, i32_w]
        rfl
      refine pure_ (i := 10) (N := some 43) (v := undef) (a' := ?_) #[true, true, true, true, true, true, true, true, true, true, true, false, false, false, false] rfl rfl (any_of HT_.out (by kernel_rfl)) (fun _ _ _ h => h) (Or.inr ⟨by rfl, rfl⟩) ?_ ?_
      rotate_left
      · simp only [Act.put, List.setIfInBounds_toArray, List.set_cons_zero, List.set_cons_succ, i64_w, i32_w]
        rfl
      refine pure_ (i := 11) (N := some 44) (v := undef) (a' := ?_) #[true, true, true, true, true, true, true, true, true, true, true, true, false, false, false] rfl rfl (any_of HT_.out (by kernel_rfl)) (fun _ _ _ h => h) (Or.inr ⟨by rfl, rfl⟩) ?_ ?_
      rotate_left
      · simp only [Act.put, List.setIfInBounds_toArray, List.set_cons_zero, List.set_cons_succ, i64_w, i32_w]
        rfl
      refine pure_ (i := 12) (N := some 45) (v := undef) (a' := ?_) #[true, true, true, true, true, true, true, true, true, true, true, true, true, false, false] rfl rfl (any_of HT_.out (by kernel_rfl)) (fun _ _ _ h => h) (Or.inr ⟨by rfl, rfl⟩) ?_ ?_
      rotate_left
      · simp only [Act.put, List.setIfInBounds_toArray, List.set_cons_zero, List.set_cons_succ, i64_w, i32_w]
        rfl
      refine pure_ (i := 13) (N := some 46) (v := ?_) (a' := ?_) #[true, true, true, true, true, true, true, true, true, true, true, true, true, true, false] rfl rfl (any_of HT_.out (by kernel_rfl)) (fun _ _ _ h => h) (Or.inl ⟨by rfl, ?_⟩) ?_ ?_
      rotate_left
      · intro w'
        go_simp
        with_reducible rfl
      rotate_left
      · simp only [Act.put, List.setIfInBounds_toArray, List.set_cons_zero, List.set_cons_succ, i64_w, i32_w]
        rfl
      refine pure_ (i := 14) (N := some 8) (v := ?_) (a' := ?_) #[true, true, true, true, true, true, true, true, true, true, true, true, true, true, true] rfl rfl (any_of HT_.out (by kernel_rfl)) (fun _ _ _ h => h) (Or.inl ⟨by rfl, ?_⟩) ?_ ?_
      rotate_left
      · intro w'
        go_simp
        with_reducible rfl
      rotate_left
      · simp only [Act.put, List.setIfInBounds_toArray, List.set_cons_zero, List.set_cons_succ, i64_w, i32_w]
        rfl
      refine done_ (done_of HT_.out (by kernel_rfl)) ?_
      try go_wp2
      go_ret
      exact ⟨by first | rfl | (simp [errW_none, errW_some] <;> rfl) | (simp [*, errW_none, errW_some] <;> rfl), by repeat (first | (with_reducible first | exact HB.out | apply below_alloc | apply pw_below_drewN | apply below_drew1 | refine below_set ?_ GE297.out | refine below_set ?_ GE305.out) | exact HB.out)⟩
  · replace c11 := Bool.eq_false_iff.mpr c11
    subst c11
    have H1 : (some false) = some r := by rw [if_neg (show ¬ (false = true) by decide)] at H; exact H
    clear H
    have H := H1
    clear H1
    obtain rfl := Option.some.inj H
    go_enter Try.func8, Try.ntmps8
    try go_wp2_with (first | ((with_reducible refine gate_dst (N := 7) rfl ?_); refine box_event ?hg (N := 7) ?hd (cs := #[.int .i64 a3_0, .int .i64 a3_1, .int .i64 a3_2]) (t := 46) ?hr ?_; (case hd => rfl); (case hg => rfl); (case hr => first | (go_simp; done) | (go_simp; rfl)); intro gb297 hg w51 hbox hb; have n0_ := Aside0.mk (below_step (by repeat (first | (with_reducible first | exact HB.out | apply below_alloc | apply pw_below_drewN | apply below_drew1) | exact HB.out)) hb); have n1_ := Aside0.mk (hbox); have n2_ := Aside0.mk ((by rw [hg]; exact (below_size (by repeat (first | (with_reducible first | exact HB.out | apply below_alloc | apply pw_below_drewN | apply below_drew1) | exact HB.out))) : w.heap.size ≤ gb297)); have n3_ := Aside0.mk ((by rw [hg]; exact (below_size (by repeat (first | (with_reducible first | exact HB.out | apply below_alloc | apply pw_below_drewN | apply below_drew1) | exact HB.out))) : w.heap.size ≤ gb297)); clear HB; have HB := n0_; have BK297 := n1_; have GW297 := n2_; have GE297 := n3_; clear n0_ n1_ n2_ n3_; clear hb hbox hg) | ((with_reducible refine gate_callee (f := 9) rfl ?_); refine goesL_ (some 12) rfl rfl Try.func9 (by kernel_rfl) rfl #[.slice A0 l0.length c0] rfl (by (try simp only [List.map_toArray, List.map_cons, List.map_nil]); first | done | rfl | (simp only [List.length_drop, List.length_take]; rfl)) ?_; (with_reducible refine (railplankeep_Network.calls k _ _ l0 t298 t299 t302 _ ?side1 ?side2 A5.out).mono ?_); (case side1 => repeat (first | exact (Kd.C_below HR0.out HB.out) | (with_reducible refine Kd.C_alloc ?_ _) | (with_reducible refine Kd.C_drewN ?_ _) | (with_reducible refine Kd.C_drew ?_))); (case side2 => exact HC0.out); rintro e w52 ⟨v300, v303, rfl, ho0, ho1, hb⟩; refine ⟨_, rfl, ?_⟩; have n0_ := Aside0.mk (Kd.R_lower (Kd.R_newB ho0 (g := gb297) (o := .cells #[.int .i64 a3_0, .int .i64 a3_1, .int .i64 a3_2] 46 (0, 0)) (by (with_reducible repeat (first | refine blk_drewN ?_ _ | refine blk_drew ?_ | refine blk_alloc ?_ _)); exact BK297.out)) (below_size (by repeat (first | (with_reducible first | exact HB.out | apply below_alloc | apply pw_below_drewN | apply below_drew1 | refine below_set ?_ GE297.out) | exact HB.out)))); have n1_ := Aside0.mk (Kd.R_lower ho1 (below_size (by repeat (first | (with_reducible first | exact HB.out | apply below_alloc | apply pw_below_drewN | apply below_drew1 | refine below_set ?_ GE297.out) | exact HB.out)))); have n2_ := Aside0.mk (blk_below (g := gb297) (o := .cells #[.int .i64 a3_0, .int .i64 a3_1, .int .i64 a3_2] 46 (0, 0)) (by (with_reducible repeat (first | refine blk_drewN ?_ _ | refine blk_drew ?_ | refine blk_alloc ?_ _)); exact BK297.out) hb); have n3_ := Aside0.mk (below_step (by repeat (first | (with_reducible first | exact HB.out | apply below_alloc | apply pw_below_drewN | apply below_drew1 | refine below_set ?_ GE297.out) | exact HB.out)) hb); clear BK297; clear HB; have HO301 := n0_; have HO304 := n1_; have BK297 := n2_; have HB := n3_; clear n0_ n1_ n2_ n3_; (try clear hb); (try clear hb2); (try clear hk); (try clear hi); (try clear ho0); (try clear ho1)) | ((with_reducible refine gate_dst (N := 9) rfl ?_); refine box_event ?hg (N := 9) ?hd (cs := #[.int .i64 0, .slice none 0 0, .slice none 0 0]) (t := 26) ?hr ?_; (case hd => rfl); (case hg => rfl); (case hr => first | (go_simp; done) | (go_simp; rfl)); intro gb305 hg w53 hbox hb; have n0_ := Aside0.mk (Kd.R_below (by (with_reducible repeat (first | apply Kd.R_alloc | apply Kd.R_drewN | apply Kd.R_drew)); exact HO301.out) hb); have n1_ := Aside0.mk (Kd.R_below (by (with_reducible repeat (first | apply Kd.R_alloc | apply Kd.R_drewN | apply Kd.R_drew)); exact HO304.out) hb); have n2_ := Aside0.mk (blk_below (g := gb297) (o := .cells #[.int .i64 a3_0, .int .i64 a3_1, .int .i64 a3_2] 46 (0, 0)) (by (with_reducible repeat (first | refine blk_drewN ?_ _ | refine blk_drew ?_ | refine blk_alloc ?_ _)); exact BK297.out) hb); have n3_ := Aside0.mk (below_step (by repeat (first | (with_reducible first | exact HB.out | apply below_alloc | apply pw_below_drewN | apply below_drew1 | refine below_set ?_ GE297.out) | exact HB.out)) hb); have n4_ := Aside0.mk (hbox); have n5_ := Aside0.mk ((by rw [hg]; exact (below_size (by repeat (first | (with_reducible first | exact HB.out | apply below_alloc | apply pw_below_drewN | apply below_drew1 | refine below_set ?_ GE297.out) | exact HB.out))) : w.heap.size ≤ gb305)); have n6_ := Aside0.mk ((by rw [hg]; exact (below_size (by repeat (first | (with_reducible first | exact HB.out | apply below_alloc | apply pw_below_drewN | apply below_drew1 | refine below_set ?_ GE297.out) | exact HB.out))) : w.heap.size ≤ gb305)); have n7_ := Aside0.mk ((by rw [hg]; exact Nat.ne_of_lt (blk_lt (g := gb297) (o := .cells #[.int .i64 a3_0, .int .i64 a3_1, .int .i64 a3_2] 46 (0, 0)) (by (with_reducible repeat (first | refine blk_drewN ?_ _ | refine blk_drew ?_ | refine blk_alloc ?_ _)); exact BK297.out)) : gb297 ≠ gb305)); have n8_ := Aside0.mk ((by rw [hg]; exact Nat.ne_of_gt (blk_lt (g := gb297) (o := .cells #[.int .i64 a3_0, .int .i64 a3_1, .int .i64 a3_2] 46 (0, 0)) (by (with_reducible repeat (first | refine blk_drewN ?_ _ | refine blk_drew ?_ | refine blk_alloc ?_ _)); exact BK297.out)) : gb305 ≠ gb297)); clear HO301; clear HO304; clear BK297; clear HB; have HO301 := n0_; have HO304 := n1_; have BK297 := n2_; have HB := n3_; have BK305 := n4_; have GW305 := n5_; have GE305 := n6_; have NB297_305 := n7_; have NB305_297 := n8_; clear n0_ n1_ n2_ n3_ n4_ n5_ n6_ n7_ n8_; clear hb hbox hg; have hnb54 := NB305_297.out; have hnc54 := NB297_305.out; have hcz55_0 : w53.cell? ⟨gb305, 0, none⟩ = some (.int .i64 0) := (blk_cell BK305.out 0).trans rfl; have hcz55_1 : w53.cell? ⟨gb305, 1, none⟩ = some (.slice none 0 0) := (blk_cell BK305.out 1).trans rfl; have hcz55_2 : w53.cell? ⟨gb305, 2, none⟩ = some (.slice none 0 0) := (blk_cell BK305.out 2).trans rfl; have hfz55_0 := blk_frozen BK305.out 0; have hfz55_1 := blk_frozen BK305.out 1; have hfz55_2 := blk_frozen BK305.out 2; obtain ⟨Ao56, co56, eo56⟩ := Kd.R_slice HO301.out; subst eo56; obtain ⟨Ao57, co57, eo57⟩ := Kd.R_slice HO304.out; subst eo57) | ((with_reducible refine gate_callee (f := 11) rfl ?_); refine goesL_ (some 18) rfl rfl Try.func11 (by kernel_rfl) rfl #[.int .i64 a2, .int .i64 (wrap64 ((t302.length : Int) + 2))] rfl (by (try simp only [List.map_toArray, List.map_cons, List.map_nil]); first | done | rfl | (simp only [List.length_drop, List.length_take]; rfl)) ?_; (with_reducible refine (railplankeep_Pick.calls a2 (wrap64 ((t302.length : Int) + 2)) t306 _ A6.out).mono ?_); rintro e w' ⟨rfl, ⟨nd, rfl⟩⟩; refine ⟨_, rfl, ?_⟩))
    have n0_ : Aside0 (Kd.R k46 46 (((w53.setCell ⟨gb305, 0, none⟩ (.int .i64 t298)).setCell ⟨gb305, 1, none⟩ (.slice Ao56 t299.length co56)).setCell ⟨gb305, 2, none⟩ (.slice Ao57 t302.length co57)) w.heap.size (fun k_ => k_ ≠ gb297) (.slice Ao56 t299.length co56) t299) := ⟨by (with_reducible repeat (first | apply Kd.R_alloc | apply Kd.R_drewN | apply Kd.R_drew)); exact Kd.R_mono (Kd.R_far (p := ⟨gb305, 2, none⟩) (Kd.R_far (p := ⟨gb305, 1, none⟩) (Kd.R_far (p := ⟨gb305, 0, none⟩) (Kd.R_types HO301.out BK305.out (by decide)) (fun _ hk => hk.2) (.int .i64 t298)) (fun _ hk => hk.2) (.slice Ao56 t299.length co56)) (fun _ hk => hk.2) (.slice Ao57 t302.length co57)) (fun _ hk => hk.1.2)⟩
    have n1_ : Aside0 (Kd.R k31 31 (((w53.setCell ⟨gb305, 0, none⟩ (.int .i64 t298)).setCell ⟨gb305, 1, none⟩ (.slice Ao56 t299.length co56)).setCell ⟨gb305, 2, none⟩ (.slice Ao57 t302.length co57)) w.heap.size (fun _ => True) (.slice Ao57 t302.length co57) t302) := ⟨by (with_reducible repeat (first | apply Kd.R_alloc | apply Kd.R_drewN | apply Kd.R_drew)); exact Kd.R_mono (Kd.R_far (p := ⟨gb305, 2, none⟩) (Kd.R_far (p := ⟨gb305, 1, none⟩) (Kd.R_far (p := ⟨gb305, 0, none⟩) (Kd.R_types HO304.out BK305.out (by decide)) (fun _ hk => hk.2) (.int .i64 t298)) (fun _ hk => hk.2) (.slice Ao56 t299.length co56)) (fun _ hk => hk.2) (.slice Ao57 t302.length co57)) (fun _ hk => trivial)⟩
    have n2_ : Aside0 ((((w53.setCell ⟨gb305, 0, none⟩ (.int .i64 t298)).setCell ⟨gb305, 1, none⟩ (.slice Ao56 t299.length co56)).setCell ⟨gb305, 2, none⟩ (.slice Ao57 t302.length co57)).heap[gb297]? = some (.cells #[.int .i64 a3_0, .int .i64 a3_1, .int .i64 a3_2] 46 (0, 0))) := ⟨by (with_reducible repeat (first | refine blk_drewN ?_ _ | refine blk_drew ?_ | refine blk_alloc ?_ _)); refine blk_far ?_ NB297_305.out _; (with_reducible repeat (first | refine blk_drewN ?_ _ | refine blk_drew ?_ | refine blk_alloc ?_ _)); refine blk_far ?_ NB297_305.out _; (with_reducible repeat (first | refine blk_drewN ?_ _ | refine blk_drew ?_ | refine blk_alloc ?_ _)); refine blk_far ?_ NB297_305.out _; (with_reducible repeat (first | refine blk_drewN ?_ _ | refine blk_drew ?_ | refine blk_alloc ?_ _)); exact BK297.out⟩
    have n3_ : Aside0 ((((w53.setCell ⟨gb305, 0, none⟩ (.int .i64 t298)).setCell ⟨gb305, 1, none⟩ (.slice Ao56 t299.length co56)).setCell ⟨gb305, 2, none⟩ (.slice Ao57 t302.length co57)).heap[gb305]? = some (.cells #[.int .i64 t298, .slice Ao56 t299.length co56, .slice Ao57 t302.length co57] 26 (0, 0))) := ⟨by (with_reducible repeat (first | refine blk_drewN ?_ _ | refine blk_drew ?_ | refine blk_alloc ?_ _)); refine blk_put (cs := #[.int .i64 t298, .slice Ao56 t299.length co56, .slice none 0 0]) ?_ 2 _ rfl; (with_reducible repeat (first | refine blk_drewN ?_ _ | refine blk_drew ?_ | refine blk_alloc ?_ _)); refine blk_put (cs := #[.int .i64 t298, .slice none 0 0, .slice none 0 0]) ?_ 1 _ rfl; (with_reducible repeat (first | refine blk_drewN ?_ _ | refine blk_drew ?_ | refine blk_alloc ?_ _)); refine blk_put (cs := #[.int .i64 0, .slice none 0 0, .slice none 0 0]) ?_ 0 _ rfl; (with_reducible repeat (first | refine blk_drewN ?_ _ | refine blk_drew ?_ | refine blk_alloc ?_ _)); exact BK305.out⟩
    have n4_ : Aside0 (Below w.heap.size w (((w53.setCell ⟨gb305, 0, none⟩ (.int .i64 t298)).setCell ⟨gb305, 1, none⟩ (.slice Ao56 t299.length co56)).setCell ⟨gb305, 2, none⟩ (.slice Ao57 t302.length co57))) := ⟨by repeat (first | (with_reducible first | exact HB.out | apply below_alloc | apply pw_below_drewN | apply below_drew1 | refine below_set ?_ GE297.out | refine below_set ?_ GE305.out) | exact HB.out)⟩
    (try clear HO301)
    (try clear HO304)
    (try clear BK297)
    (try clear BK305)
    (try clear HB)
    (try simp only [show ∀ (w_ : World) (n_ : Nat) (p_ : Addr) (v_ : Value), (w_.drewN n_).setCell p_ v_ = (w_.setCell p_ v_).drewN n_ from fun _ _ _ _ => rfl])
    generalize (((w53.setCell ⟨gb305, 0, none⟩ (.int .i64 t298)).setCell ⟨gb305, 1, none⟩ (.slice Ao56 t299.length co56)).setCell ⟨gb305, 2, none⟩ (.slice Ao57 t302.length co57)) = w58 at n0_ n1_ n2_ n3_ n4_ ⊢
    have HO301 := n0_
    have HO304 := n1_
    have BK297 := n2_
    have BK305 := n3_
    have HB := n4_
    clear n0_ n1_ n2_ n3_ n4_
    (try (rw [drewN_self w58]; generalize hq_ : World.drewN w58 _ = w58; have n0_ : Aside0 (Kd.R k46 46 w58 w.heap.size (fun k_ => k_ ≠ gb297) (.slice Ao56 t299.length co56) t299) := ⟨by rw [← hq_]; exact (by (with_reducible repeat (first | apply Kd.R_alloc | apply Kd.R_drewN | apply Kd.R_drew)); exact HO301.out)⟩; have n1_ : Aside0 (Kd.R k31 31 w58 w.heap.size (fun _ => True) (.slice Ao57 t302.length co57) t302) := ⟨by rw [← hq_]; exact (by (with_reducible repeat (first | apply Kd.R_alloc | apply Kd.R_drewN | apply Kd.R_drew)); exact HO304.out)⟩; have n2_ : Aside0 (w58.heap[gb297]? = some (.cells #[.int .i64 a3_0, .int .i64 a3_1, .int .i64 a3_2] 46 (0, 0))) := ⟨by rw [← hq_]; exact (by (with_reducible repeat (first | refine blk_drewN ?_ _ | refine blk_drew ?_ | refine blk_alloc ?_ _)); exact BK297.out)⟩; have n3_ : Aside0 (w58.heap[gb305]? = some (.cells #[.int .i64 t298, .slice Ao56 t299.length co56, .slice Ao57 t302.length co57] 26 (0, 0))) := ⟨by rw [← hq_]; exact (by (with_reducible repeat (first | refine blk_drewN ?_ _ | refine blk_drew ?_ | refine blk_alloc ?_ _)); exact BK305.out)⟩; have n4_ : Aside0 (Below w.heap.size w w58) := ⟨by rw [← hq_]; exact (by repeat (first | (with_reducible first | exact HB.out | apply below_alloc | apply pw_below_drewN | apply below_drew1 | refine below_set ?_ GE297.out | refine below_set ?_ GE305.out) | exact HB.out))⟩; clear HO301 HO304 BK297 BK305 HB hq_; have HO301 := n0_; have HO304 := n1_; have BK297 := n2_; have BK305 := n3_; have HB := n4_; clear n0_ n1_ n2_ n3_ n4_))
    have n0_ := Aside0.mk (Kd.R_drew HO301.out)
    have n1_ := Aside0.mk (Kd.R_drew HO304.out)
    have n2_ := Aside0.mk (blk_drew BK297.out)
    have n3_ := Aside0.mk (blk_drew BK305.out)
    have n4_ := Aside0.mk (below_drew1 HB.out)
    clear HO301
    clear HO304
    clear BK297
    clear BK305
    clear HB
    have HO301 := n0_
    have HO304 := n1_
    have BK297 := n2_
    have BK305 := n3_
    have HB := n4_
    clear n0_ n1_ n2_ n3_ n4_
    refine start_ (n := 16) (S := fun w' => w'.cell? ⟨gb297, 0, none⟩ = some (.int .i64 a3_0) ∧ w'.cell? ⟨gb297, 1, none⟩ = some (.int .i64 a3_1) ∧ w'.cell? ⟨gb297, 2, none⟩ = some (.int .i64 a3_2)) (ds := [11, 13, 15]) #[false, false, false, false, false, false, false, false, false, false, false, false, false, false, false, false] (by kernel_rfl) rfl rfl ⟨(blk_cell BK297.out 0).trans rfl, (blk_cell BK297.out 1).trans rfl, (blk_cell BK297.out 2).trans rfl⟩ (fun hHeld => ?_); refine with_tabW railplanlaw11_NetworkGenerated.tab3 railplanlaw11_NetworkGenerated.bits3 (fun HT_ HW_ => ?_)
    generalize w58.drew = w59 at HO301 HO304 BK297 BK305 HB hHeld ⊢
    refine pure_ (i := 0) (N := some 20) (v := ?_) (a' := ?_) #[true, false, false, false, false, false, false, false, false, false, false, false, false, false, false, false] rfl rfl (any_of HT_.out (by kernel_rfl)) (fun _ _ _ h => h) (Or.inl ⟨by rfl, ?_⟩) ?_ ?_
    rotate_left
    · intro w'
      go_simp
      with_reducible rfl
    rotate_left
    · simp only [Act.put, List.setIfInBounds_toArray, List.set_cons_zero, List.set_cons_succ, i64_w, i32_w]
      rfl
    refine pure_ (i := 4) (N := some 24) (v := ?_) (a' := ?_) #[true, false, false, false, true, false, false, false, false, false, false, false, false, false, false, false] rfl rfl (any_of HT_.out (by kernel_rfl)) (fun _ _ _ h => h) (Or.inl ⟨by rfl, ?_⟩) ?_ ?_
    rotate_left
    · intro w'
      go_simp
      with_reducible rfl
    rotate_left
    · simp only [Act.put, List.setIfInBounds_toArray, List.set_cons_zero, List.set_cons_succ, i64_w, i32_w]
      rfl
    refine pure_ (i := 7) (N := some 27) (v := ?_) (a' := ?_) #[true, false, false, false, true, false, false, true, false, false, false, false, false, false, false, false] rfl rfl (any_of HT_.out (by kernel_rfl)) (fun _ _ _ h => h) (Or.inl ⟨by rfl, ?_⟩) ?_ ?_
    rotate_left
    · intro w'
      go_simp
      with_reducible rfl
    rotate_left
    · simp only [Act.put, List.setIfInBounds_toArray, List.set_cons_zero, List.set_cons_succ, i64_w, i32_w]
      rfl
    refine take_ (i := 1) (N := some 21) (v := ?_) (a' := ?_) #[true, true, false, false, true, false, false, true, false, false, false, false, false, false, false, false] rfl rfl (take_ofW HT_.out HW_.out (by kernel_rfl)) (fun _ _ _ h => h) (Or.inl ⟨by rfl, ?_⟩) hHeld ?_ ?_
    rotate_left
    · rintro w' ⟨s0, s1, s2⟩
      go_simp
      with_reducible rfl
    rotate_left
    · simp only [Act.put, List.setIfInBounds_toArray, List.set_cons_zero, List.set_cons_succ, i64_w, i32_w]
      rfl
    refine take_ (i := 5) (N := some 25) (v := ?_) (a' := ?_) #[true, true, false, false, true, true, false, true, false, false, false, false, false, false, false, false] rfl rfl (take_ofW HT_.out HW_.out (by kernel_rfl)) (fun _ _ _ h => h) (Or.inl ⟨by rfl, ?_⟩) hHeld ?_ ?_
    rotate_left
    · rintro w' ⟨s0, s1, s2⟩
      go_simp
      with_reducible rfl
    rotate_left
    · simp only [Act.put, List.setIfInBounds_toArray, List.set_cons_zero, List.set_cons_succ, i64_w, i32_w]
      rfl
    refine take_ (i := 8) (N := some 28) (v := ?_) (a' := ?_) #[true, true, false, false, true, true, false, true, true, false, false, false, false, false, false, false] rfl rfl (take_ofW HT_.out HW_.out (by kernel_rfl)) (fun _ _ _ h => h) (Or.inl ⟨by rfl, ?_⟩) hHeld ?_ ?_
    rotate_left
    · rintro w' ⟨s0, s1, s2⟩
      go_simp
      with_reducible rfl
    rotate_left
    · simp only [Act.put, List.setIfInBounds_toArray, List.set_cons_zero, List.set_cons_succ, i64_w, i32_w]
      rfl
    refine one_ (i := 2) (N := some 22) #[true, true, true, false, true, true, false, true, true, false, false, false, false, false, false, false] rfl rfl (one_of HT_.out (by kernel_rfl)) (by decide) (fun K hK => ?_)
    refine goes_ Try.func11 (by kernel_rfl) rfl #[.int .i64 a3_0, .int .i64 2] (by rfl) rfl rfl (by (try simp only [List.map_toArray, List.map_cons, List.map_nil]); first | done | rfl | (simp only [List.length_drop, List.length_take]; rfl)) ?_
    with_reducible refine (railplankeep_Pick.calls a3_0 2 t307 _ A7.out).mono ?_
    rintro e w' ⟨rfl, ⟨nd, rfl⟩⟩
    refine ⟨_, rfl, ?_⟩
    refine hK.out _ _ ⟨(blk_cell BK297.out 0).trans rfl, (blk_cell BK297.out 1).trans rfl, (blk_cell BK297.out 2).trans rfl⟩ (fun hHeld => ?_)
    clear hK K
    refine norm_ (a' := ?_) ?_ ?_
    rotate_left
    · show Act.put _ (some 22) _ = _
      simp only [Act.put, List.setIfInBounds_toArray, List.set_cons_zero, List.set_cons_succ, i64_w, i32_w]
      rfl
    refine pure_ (i := 3) (N := some 23) (v := ?_) (a' := ?_) #[true, true, true, true, true, true, false, true, true, false, false, false, false, false, false, false] rfl rfl (any_of HT_.out (by kernel_rfl)) (fun _ _ _ h => h) (Or.inl ⟨by rfl, ?_⟩) ?_ ?_
    rotate_left
    · intro w'
      go_simp
      with_reducible rfl
    rotate_left
    · simp only [Act.put, List.setIfInBounds_toArray, List.set_cons_zero, List.set_cons_succ, i64_w, i32_w]
      rfl
    refine pure_ (i := 10) (N := some 30) (v := ?_) (a' := ?_) #[true, true, true, true, true, true, false, true, true, false, true, false, false, false, false, false] rfl rfl (any_of HT_.out (by kernel_rfl)) (fun _ _ _ h => h) (Or.inl ⟨by rfl, ?_⟩) ?_ ?_
    rotate_left
    · intro w'
      go_simp
      with_reducible rfl
    rotate_left
    · simp only [Act.put, List.setIfInBounds_toArray, List.set_cons_zero, List.set_cons_succ, i64_w, i32_w]
      rfl
    refine one_ (i := 6) (N := some 26) #[true, true, true, true, true, true, true, true, true, false, true, false, false, false, false, false] rfl rfl (one_of HT_.out (by kernel_rfl)) (by decide) (fun K hK => ?_)
    refine goes_ Try.func11 (by kernel_rfl) rfl #[.int .i64 a3_1, .int .i64 3] (by rfl) rfl rfl (by (try simp only [List.map_toArray, List.map_cons, List.map_nil]); first | done | rfl | (simp only [List.length_drop, List.length_take]; rfl)) ?_
    with_reducible refine (railplankeep_Pick.calls a3_1 3 t308 _ A8.out).mono ?_
    rintro e w' ⟨rfl, ⟨nd, rfl⟩⟩
    refine ⟨_, rfl, ?_⟩
    refine hK.out _ _ ⟨(blk_cell BK297.out 0).trans rfl, (blk_cell BK297.out 1).trans rfl, (blk_cell BK297.out 2).trans rfl⟩ (fun hHeld => ?_)
    clear hK K
    refine norm_ (a' := ?_) ?_ ?_
    rotate_left
    · show Act.put _ (some 26) _ = _
      simp only [Act.put, List.setIfInBounds_toArray, List.set_cons_zero, List.set_cons_succ, i64_w, i32_w]
      rfl
    refine one_ (i := 9) (N := some 29) #[true, true, true, true, true, true, true, true, true, true, true, false, false, false, false, false] rfl rfl (one_of HT_.out (by kernel_rfl)) (by decide) (fun K hK => ?_)
    refine goes_ Try.func11 (by kernel_rfl) rfl #[.int .i64 a3_2, .int .i64 3] (by rfl) rfl rfl (by (try simp only [List.map_toArray, List.map_cons, List.map_nil]); first | done | rfl | (simp only [List.length_drop, List.length_take]; rfl)) ?_
    with_reducible refine (railplankeep_Pick.calls a3_2 3 t309 _ A9.out).mono ?_
    rintro e w' ⟨rfl, ⟨nd, rfl⟩⟩
    refine ⟨_, rfl, ?_⟩
    refine hK.out _ _ ⟨(blk_cell BK297.out 0).trans rfl, (blk_cell BK297.out 1).trans rfl, (blk_cell BK297.out 2).trans rfl⟩ (fun hHeld => ?_)
    clear hK K
    refine norm_ (a' := ?_) ?_ ?_
    rotate_left
    · show Act.put _ (some 29) _ = _
      simp only [Act.put, List.setIfInBounds_toArray, List.set_cons_zero, List.set_cons_succ, i64_w, i32_w]
      rfl
    refine last_ (i := 11) (N := none) #[true, true, true, true, true, true, true, true, true, true, true, true, false, false, false, false] rfl rfl (one_of HT_.out (by kernel_rfl)) (by decide) (fun K hK => ?_)
    have hs60 : w59.cell? ⟨gb297, 0, none⟩ = some (.int .i64 a3_0) := (blk_cell BK297.out 0).trans rfl
    have hfs60 := blk_frozen BK297.out 0
    have hns60_1 := NB305_297.out
    have hms60_1 := NB297_305.out
    refine skip_ (w1 := ?_) (by rfl) rfl ?_ ?_
    rotate_left
    · go_simp
      rfl
    refine hK.out _ _ ?_
    clear hK K
    refine pure_ (i := 12) (N := some 31) (v := ?_) (a' := ?_) #[true, true, true, true, true, true, true, true, true, true, true, true, true, false, false, false] rfl rfl (any_of HT_.out (by kernel_rfl)) (fun _ _ _ h => h) (Or.inl ⟨by rfl, ?_⟩) ?_ ?_
    rotate_left
    · intro w'
      go_simp
      with_reducible rfl
    rotate_left
    · simp only [Act.put, List.setIfInBounds_toArray, List.set_cons_zero, List.set_cons_succ, i64_w, i32_w]
      rfl
    refine last_ (i := 13) (N := none) #[true, true, true, true, true, true, true, true, true, true, true, true, true, true, false, false] rfl rfl (one_of HT_.out (by kernel_rfl)) (by decide) (fun K hK => ?_)
    have hs61 : w59.cell? ⟨gb297, 1, none⟩ = some (.int .i64 a3_1) := (blk_cell BK297.out 1).trans rfl
    have hfs61 := blk_frozen BK297.out 1
    have hns61_1 := NB305_297.out
    have hms61_1 := NB297_305.out
    refine skip_ (w1 := ?_) (by rfl) rfl ?_ ?_
    rotate_left
    · go_simp
      rfl
    refine hK.out _ _ ?_
    clear hK K
    refine pure_ (i := 14) (N := some 32) (v := ?_) (a' := ?_) #[true, true, true, true, true, true, true, true, true, true, true, true, true, true, true, false] rfl rfl (any_of HT_.out (by kernel_rfl)) (fun _ _ _ h => h) (Or.inl ⟨by rfl, ?_⟩) ?_ ?_
    rotate_left
    · intro w'
      go_simp
      with_reducible rfl
    rotate_left
    · simp only [Act.put, List.setIfInBounds_toArray, List.set_cons_zero, List.set_cons_succ, i64_w, i32_w]
      rfl
    refine last_ (i := 15) (N := none) #[true, true, true, true, true, true, true, true, true, true, true, true, true, true, true, true] rfl rfl (one_of HT_.out (by kernel_rfl)) (by decide) (fun K hK => ?_)
    have hs62 : w59.cell? ⟨gb297, 2, none⟩ = some (.int .i64 a3_2) := (blk_cell BK297.out 2).trans rfl
    have hfs62 := blk_frozen BK297.out 2
    have hns62_1 := NB305_297.out
    have hms62_1 := NB297_305.out
    refine skip_ (w1 := ?_) (by rfl) rfl ?_ ?_
    rotate_left
    · go_simp
      rfl
    refine hK.out _ _ ?_
    clear hK K
    refine done_ (done_of HT_.out (by kernel_rfl)) ?_
    try go_wp2
    have n0_ : Aside0 (Kd.R k46 46 (((w59.setCell ⟨gb297, 0, none⟩ (.int .i64 (wrap64 (1 + t307)))).setCell ⟨gb297, 1, none⟩ (.int .i64 t308)).setCell ⟨gb297, 2, none⟩ (.int .i64 t309)) w.heap.size (fun k_ => k_ ≠ gb297) (.slice Ao56 t299.length co56) t299) := ⟨by (with_reducible repeat (first | apply Kd.R_alloc | apply Kd.R_drewN | apply Kd.R_drew)); exact Kd.R_mono (Kd.R_far (p := ⟨gb297, 2, none⟩) (Kd.R_far (p := ⟨gb297, 1, none⟩) (Kd.R_far (p := ⟨gb297, 0, none⟩) (Kd.R_mono HO301.out (fun k_ hk => (⟨hk, hk⟩ : _ ∧ k_ ≠ gb297))) (fun _ hk => hk.2) (.int .i64 (wrap64 (1 + t307)))) (fun _ hk => hk.2) (.int .i64 t308)) (fun _ hk => hk.2) (.int .i64 t309)) (fun _ hk => hk.1)⟩
    have n1_ : Aside0 (Kd.R k31 31 (((w59.setCell ⟨gb297, 0, none⟩ (.int .i64 (wrap64 (1 + t307)))).setCell ⟨gb297, 1, none⟩ (.int .i64 t308)).setCell ⟨gb297, 2, none⟩ (.int .i64 t309)) w.heap.size (fun _ => True) (.slice Ao57 t302.length co57) t302) := ⟨by (with_reducible repeat (first | apply Kd.R_alloc | apply Kd.R_drewN | apply Kd.R_drew)); exact Kd.R_mono (Kd.R_far (p := ⟨gb297, 2, none⟩) (Kd.R_far (p := ⟨gb297, 1, none⟩) (Kd.R_far (p := ⟨gb297, 0, none⟩) (Kd.R_types HO304.out BK297.out (by decide)) (fun _ hk => hk.2) (.int .i64 (wrap64 (1 + t307)))) (fun _ hk => hk.2) (.int .i64 t308)) (fun _ hk => hk.2) (.int .i64 t309)) (fun _ hk => trivial)⟩
    have n2_ : Aside0 ((((w59.setCell ⟨gb297, 0, none⟩ (.int .i64 (wrap64 (1 + t307)))).setCell ⟨gb297, 1, none⟩ (.int .i64 t308)).setCell ⟨gb297, 2, none⟩ (.int .i64 t309)).heap[gb297]? = some (.cells #[.int .i64 (wrap64 (1 + t307)), .int .i64 t308, .int .i64 t309] 46 (0, 0))) := ⟨by (with_reducible repeat (first | refine blk_drewN ?_ _ | refine blk_drew ?_ | refine blk_alloc ?_ _)); refine blk_put (cs := #[.int .i64 (wrap64 (1 + t307)), .int .i64 t308, .int .i64 a3_2]) ?_ 2 _ rfl; (with_reducible repeat (first | refine blk_drewN ?_ _ | refine blk_drew ?_ | refine blk_alloc ?_ _)); refine blk_put (cs := #[.int .i64 (wrap64 (1 + t307)), .int .i64 a3_1, .int .i64 a3_2]) ?_ 1 _ rfl; (with_reducible repeat (first | refine blk_drewN ?_ _ | refine blk_drew ?_ | refine blk_alloc ?_ _)); refine blk_put (cs := #[.int .i64 a3_0, .int .i64 a3_1, .int .i64 a3_2]) ?_ 0 _ rfl; (with_reducible repeat (first | refine blk_drewN ?_ _ | refine blk_drew ?_ | refine blk_alloc ?_ _)); exact BK297.out⟩
    have n3_ : Aside0 ((((w59.setCell ⟨gb297, 0, none⟩ (.int .i64 (wrap64 (1 + t307)))).setCell ⟨gb297, 1, none⟩ (.int .i64 t308)).setCell ⟨gb297, 2, none⟩ (.int .i64 t309)).heap[gb305]? = some (.cells #[.int .i64 t298, .slice Ao56 t299.length co56, .slice Ao57 t302.length co57] 26 (0, 0))) := ⟨by (with_reducible repeat (first | refine blk_drewN ?_ _ | refine blk_drew ?_ | refine blk_alloc ?_ _)); refine blk_far ?_ NB305_297.out _; (with_reducible repeat (first | refine blk_drewN ?_ _ | refine blk_drew ?_ | refine blk_alloc ?_ _)); refine blk_far ?_ NB305_297.out _; (with_reducible repeat (first | refine blk_drewN ?_ _ | refine blk_drew ?_ | refine blk_alloc ?_ _)); refine blk_far ?_ NB305_297.out _; (with_reducible repeat (first | refine blk_drewN ?_ _ | refine blk_drew ?_ | refine blk_alloc ?_ _)); exact BK305.out⟩
    have n4_ : Aside0 (Below w.heap.size w (((w59.setCell ⟨gb297, 0, none⟩ (.int .i64 (wrap64 (1 + t307)))).setCell ⟨gb297, 1, none⟩ (.int .i64 t308)).setCell ⟨gb297, 2, none⟩ (.int .i64 t309))) := ⟨by repeat (first | (with_reducible first | exact HB.out | apply below_alloc | apply pw_below_drewN | apply below_drew1 | refine below_set ?_ GE297.out | refine below_set ?_ GE305.out) | exact HB.out)⟩
    (try clear HO301)
    (try clear HO304)
    (try clear BK297)
    (try clear BK305)
    (try clear HB)
    (try simp only [show ∀ (w_ : World) (n_ : Nat) (p_ : Addr) (v_ : Value), (w_.drewN n_).setCell p_ v_ = (w_.setCell p_ v_).drewN n_ from fun _ _ _ _ => rfl])
    generalize (((w59.setCell ⟨gb297, 0, none⟩ (.int .i64 (wrap64 (1 + t307)))).setCell ⟨gb297, 1, none⟩ (.int .i64 t308)).setCell ⟨gb297, 2, none⟩ (.int .i64 t309)) = w63 at n0_ n1_ n2_ n3_ n4_ ⊢
    have HO301 := n0_
    have HO304 := n1_
    have BK297 := n2_
    have BK305 := n3_
    have HB := n4_
    clear n0_ n1_ n2_ n3_ n4_
    (try (rw [drewN_self w63]; generalize hq_ : World.drewN w63 _ = w63; have n0_ : Aside0 (Kd.R k46 46 w63 w.heap.size (fun k_ => k_ ≠ gb297) (.slice Ao56 t299.length co56) t299) := ⟨by rw [← hq_]; exact (by (with_reducible repeat (first | apply Kd.R_alloc | apply Kd.R_drewN | apply Kd.R_drew)); exact HO301.out)⟩; have n1_ : Aside0 (Kd.R k31 31 w63 w.heap.size (fun _ => True) (.slice Ao57 t302.length co57) t302) := ⟨by rw [← hq_]; exact (by (with_reducible repeat (first | apply Kd.R_alloc | apply Kd.R_drewN | apply Kd.R_drew)); exact HO304.out)⟩; have n2_ : Aside0 (w63.heap[gb297]? = some (.cells #[.int .i64 (wrap64 (1 + t307)), .int .i64 t308, .int .i64 t309] 46 (0, 0))) := ⟨by rw [← hq_]; exact (by (with_reducible repeat (first | refine blk_drewN ?_ _ | refine blk_drew ?_ | refine blk_alloc ?_ _)); exact BK297.out)⟩; have n3_ : Aside0 (w63.heap[gb305]? = some (.cells #[.int .i64 t298, .slice Ao56 t299.length co56, .slice Ao57 t302.length co57] 26 (0, 0))) := ⟨by rw [← hq_]; exact (by (with_reducible repeat (first | refine blk_drewN ?_ _ | refine blk_drew ?_ | refine blk_alloc ?_ _)); exact BK305.out)⟩; have n4_ : Aside0 (Below w.heap.size w w63) := ⟨by rw [← hq_]; exact (by repeat (first | (with_reducible first | exact HB.out | apply below_alloc | apply pw_below_drewN | apply below_drew1 | refine below_set ?_ GE297.out | refine below_set ?_ GE305.out) | exact HB.out))⟩; clear HO301 HO304 BK297 BK305 HB hq_; have HO301 := n0_; have HO304 := n1_; have BK297 := n2_; have BK305 := n3_; have HB := n4_; clear n0_ n1_ n2_ n3_ n4_))
    have n0_ := Aside0.mk (Kd.R_drew HO301.out)
    have n1_ := Aside0.mk (Kd.R_drew HO304.out)
    have n2_ := Aside0.mk (blk_drew BK297.out)
    have n3_ := Aside0.mk (blk_drew BK305.out)
    have n4_ := Aside0.mk (below_drew1 HB.out)
    clear HO301
    clear HO304
    clear BK297
    clear BK305
    clear HB
    have HO301 := n0_
    have HO304 := n1_
    have BK297 := n2_
    have BK305 := n3_
    have HB := n4_
    clear n0_ n1_ n2_ n3_ n4_
    refine start_ (n := 15) (S := fun w' => True) (ds := []) #[false, false, false, false, false, false, false, false, false, false, false, false, false, false, false] (by kernel_rfl) rfl rfl trivial (fun hHeld => ?_); refine with_tabW railplanlaw11_NetworkGenerated.tab4 railplanlaw11_NetworkGenerated.bits4 (fun HT_ HW_ => ?_)
    generalize w63.drew = w64 at HO301 HO304 BK297 BK305 HB hHeld ⊢
    refine one_ (i := 0) (N := some 33) #[true, false, false, false, false, false, false, false, false, false, false, false, false, false, false] rfl rfl (one_of HT_.out (by kernel_rfl)) (by decide) (fun K hK => ?_)
    refine goes_ Try.func10 (by kernel_rfl) rfl #[] (by rfl) rfl rfl (by (try simp only [List.map_toArray, List.map_cons, List.map_nil]); first | done | rfl | (simp only [List.length_drop, List.length_take]; rfl)) ?_
    with_reducible refine (railplanlaw11_awake.calls  false _ A10.out).mono ?_
    rintro e w65 ⟨rfl, hb⟩
    refine ⟨_, rfl, ?_⟩
    have n0_ := Aside0.mk (Kd.R_below (by (with_reducible repeat (first | apply Kd.R_alloc | apply Kd.R_drewN | apply Kd.R_drew)); exact HO301.out) hb)
    have n1_ := Aside0.mk (Kd.R_below (by (with_reducible repeat (first | apply Kd.R_alloc | apply Kd.R_drewN | apply Kd.R_drew)); exact HO304.out) hb)
    have n2_ := Aside0.mk (blk_below (g := gb297) (o := .cells #[.int .i64 (wrap64 (1 + t307)), .int .i64 t308, .int .i64 t309] 46 (0, 0)) (by (with_reducible repeat (first | refine blk_drewN ?_ _ | refine blk_drew ?_ | refine blk_alloc ?_ _)); exact BK297.out) hb)
    have n3_ := Aside0.mk (blk_below (g := gb305) (o := .cells #[.int .i64 t298, .slice Ao56 t299.length co56, .slice Ao57 t302.length co57] 26 (0, 0)) (by (with_reducible repeat (first | refine blk_drewN ?_ _ | refine blk_drew ?_ | refine blk_alloc ?_ _)); exact BK305.out) hb)
    have n4_ := Aside0.mk (below_step (by repeat (first | (with_reducible first | exact HB.out | apply below_alloc | apply pw_below_drewN | apply below_drew1 | refine below_set ?_ GE297.out | refine below_set ?_ GE305.out) | exact HB.out)) hb)
    clear HO301
    clear HO304
    clear BK297
    clear BK305
    clear HB
    have HO301 := n0_
    have HO304 := n1_
    have BK297 := n2_
    have BK305 := n3_
    have HB := n4_
    clear n0_ n1_ n2_ n3_ n4_
    (try clear hb)
    (try clear hb2)
    (try clear hk)
    (try clear hi)
    refine hK.out _ _ trivial (fun hHeld => ?_)
    clear hK K
    refine norm_ (a' := ?_) ?_ ?_
    rotate_left
    · show Act.put _ (some 33) _ = _
      simp only [Act.put, List.setIfInBounds_toArray, List.set_cons_zero, List.set_cons_succ, i64_w, i32_w]
      rfl
    refine pure_ (i := 1) (N := some 34) (v := ?_) (a' := ?_) #[true, true, false, false, false, false, false, false, false, false, false, false, false, false, false] rfl rfl (any_of HT_.out (by kernel_rfl)) (fun _ _ _ h => h) (Or.inl ⟨by rfl, ?_⟩) ?_ ?_
    rotate_left
    · intro w'
      go_simp
      with_reducible rfl
    rotate_left
    · simp only [Act.put, List.setIfInBounds_toArray, List.set_cons_zero, List.set_cons_succ, i64_w, i32_w]
      rfl
    refine pure_ (i := 2) (N := some 35) (v := undef) (a' := ?_) #[true, true, true, false, false, false, false, false, false, false, false, false, false, false, false] rfl rfl (any_of HT_.out (by kernel_rfl)) (fun _ _ _ h => h) (Or.inr ⟨by rfl, rfl⟩) ?_ ?_
    rotate_left
    · simp only [Act.put, List.setIfInBounds_toArray, List.set_cons_zero, List.set_cons_succ, i64_w, i32_w]
      rfl
    refine pure_ (i := 3) (N := some 36) (v := undef) (a' := ?_) #[true, true, true, true, false, false, false, false, false, false, false, false, false, false, false] rfl rfl (any_of HT_.out (by kernel_rfl)) (fun _ _ _ h => h) (Or.inr ⟨by rfl, rfl⟩) ?_ ?_
    rotate_left
    · simp only [Act.put, List.setIfInBounds_toArray, List.set_cons_zero, List.set_cons_succ, i64_w, i32_w]
      rfl
    refine pure_ (i := 4) (N := some 37) (v := ?_) (a' := ?_) #[true, true, true, true, true, false, false, false, false, false, false, false, false, false, false] rfl rfl (any_of HT_.out (by kernel_rfl)) (fun _ _ _ h => h) (Or.inl ⟨by rfl, ?_⟩) ?_ ?_
    rotate_left
    · intro w'
      go_simp
      with_reducible rfl
    rotate_left
    · simp only [Act.put, List.setIfInBounds_toArray, List.set_cons_zero, List.set_cons_succ, i64_w, i32_w]
      rfl
    refine pure_ (i := 5) (N := some 38) (v := ?_) (a' := ?_) #[true, true, true, true, true, true, false, false, false, false, false, false, false, false, false] rfl rfl (any_of HT_.out (by kernel_rfl)) (fun _ _ _ h => h) (Or.inl ⟨by rfl, ?_⟩) ?_ ?_
    rotate_left
    · intro w'
      go_simp
      with_reducible rfl
    rotate_left
    · simp only [Act.put, List.setIfInBounds_toArray, List.set_cons_zero, List.set_cons_succ, i64_w, i32_w]
      rfl
    refine pure_ (i := 6) (N := some 39) (v := undef) (a' := ?_) #[true, true, true, true, true, true, true, false, false, false, false, false, false, false, false] rfl rfl (any_of HT_.out (by kernel_rfl)) (fun _ _ _ h => h) (Or.inr ⟨by rfl, rfl⟩) ?_ ?_
    rotate_left
    · simp only [Act.put, List.setIfInBounds_toArray, List.set_cons_zero, List.set_cons_succ, i64_w, i32_w]
      rfl
    refine pure_ (i := 7) (N := some 40) (v := undef) (a' := ?_) #[true, true, true, true, true, true, true, true, false, false, false, false, false, false, false] rfl rfl (any_of HT_.out (by kernel_rfl)) (fun _ _ _ h => h) (Or.inr ⟨by rfl, rfl⟩) ?_ ?_
    rotate_left
    · simp only [Act.put, List.setIfInBounds_toArray, List.set_cons_zero, List.set_cons_succ, i64_w, i32_w]
      rfl
    refine pure_ (i := 8) (N := some 41) (v := undef) (a' := ?_) #[true, true, true, true, true, true, true, true, true, false, false, false, false, false, false] rfl rfl (any_of HT_.out (by kernel_rfl)) (fun _ _ _ h => h) (Or.inr ⟨by rfl, rfl⟩) ?_ ?_
    rotate_left
    · simp only [Act.put, List.setIfInBounds_toArray, List.set_cons_zero, List.set_cons_succ, i64_w, i32_w]
      rfl
    refine pure_ (i := 9) (N := some 42) (v := undef) (a' := ?_) #[true, true, true, true, true, true, true, true, true, true, false, false, false, false, false] rfl rfl (any_of HT_.out (by kernel_rfl)) (fun _ _ _ h => h) (Or.inr ⟨by rfl, rfl⟩) ?_ ?_
    rotate_left
    · simp only [Act.put, List.setIfInBounds_toArray, List.set_cons_zero, List.set_cons_succ, i64_w, i32_w]
      rfl
    refine pure_ (i := 10) (N := some 43) (v := undef) (a' := ?_) #[true, true, true, true, true, true, true, true, true, true, true, false, false, false, false] rfl rfl (any_of HT_.out (by kernel_rfl)) (fun _ _ _ h => h) (Or.inr ⟨by rfl, rfl⟩) ?_ ?_
    rotate_left
    · simp only [Act.put, List.setIfInBounds_toArray, List.set_cons_zero, List.set_cons_succ, i64_w, i32_w]
      rfl
    refine pure_ (i := 11) (N := some 44) (v := undef) (a' := ?_) #[true, true, true, true, true, true, true, true, true, true, true, true, false, false, false] rfl rfl (any_of HT_.out (by kernel_rfl)) (fun _ _ _ h => h) (Or.inr ⟨by rfl, rfl⟩) ?_ ?_
    rotate_left
    · simp only [Act.put, List.setIfInBounds_toArray, List.set_cons_zero, List.set_cons_succ, i64_w, i32_w]
      rfl
    refine pure_ (i := 12) (N := some 45) (v := undef) (a' := ?_) #[true, true, true, true, true, true, true, true, true, true, true, true, true, false, false] rfl rfl (any_of HT_.out (by kernel_rfl)) (fun _ _ _ h => h) (Or.inr ⟨by rfl, rfl⟩) ?_ ?_
    rotate_left
    · simp only [Act.put, List.setIfInBounds_toArray, List.set_cons_zero, List.set_cons_succ, i64_w, i32_w]
      rfl
    refine pure_ (i := 13) (N := some 46) (v := ?_) (a' := ?_) #[true, true, true, true, true, true, true, true, true, true, true, true, true, true, false] rfl rfl (any_of HT_.out (by kernel_rfl)) (fun _ _ _ h => h) (Or.inl ⟨by rfl, ?_⟩) ?_ ?_
    rotate_left
    · intro w'
      go_simp
      with_reducible rfl
    rotate_left
    · simp only [Act.put, List.setIfInBounds_toArray, List.set_cons_zero, List.set_cons_succ, i64_w, i32_w]
      rfl
    refine pure_ (i := 14) (N := some 8) (v := ?_) (a' := ?_) #[true, true, true, true, true, true, true, true, true, true, true, true, true, true, true] rfl rfl (any_of HT_.out (by kernel_rfl)) (fun _ _ _ h => h) (Or.inl ⟨by rfl, ?_⟩) ?_ ?_
    rotate_left
    · intro w'
      go_simp
      with_reducible rfl
    rotate_left
    · simp only [Act.put, List.setIfInBounds_toArray, List.set_cons_zero, List.set_cons_succ, i64_w, i32_w]
      rfl
    refine done_ (done_of HT_.out (by kernel_rfl)) ?_
    try go_wp2
    go_ret
    exact ⟨by first | rfl | (simp [errW_none, errW_some] <;> rfl) | (simp [*, errW_none, errW_some] <;> rfl), by repeat (first | (with_reducible first | exact HB.out | apply below_alloc | apply pw_below_drewN | apply below_drew1 | refine below_set ?_ GE297.out | refine below_set ?_ GE305.out) | exact HB.out)⟩

end Go.Proofs.Ytapnkefhihgbbaa.PAll
